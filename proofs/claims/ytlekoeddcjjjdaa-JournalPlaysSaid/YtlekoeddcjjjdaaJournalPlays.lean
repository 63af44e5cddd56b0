/-
  The walk of the law JournalPlays.
-/
import Derived.Test.YtlekoeddcjjjdaaJourBo
import Derived.Test.YtlekoeddcjjjdaaJourHead
namespace Go.Proofs.Ytlekoeddcjjjdaa
open Go.RowKit Go.Cov Go.Lib
theorem rd_lt {w : World} {A : Option Addr} {xs : List Value} (h : Rd w A xs) (hx : xs ≠ []) : ∀ ad, A = some ad → ad.block < w.heap.size := fun ad hA => by
  obtain ⟨x, l, rfl⟩ := List.exists_cons_of_ne_nil hx
  obtain ⟨ad', h1, h2⟩ := h 0 x rfl
  obtain rfl : ad' = ad := Option.some.inj (h1.symm.trans hA)
  rw [add_zero'] at h2
  refine Nat.lt_of_not_le fun hle => ?_
  rw [World.cell?, Array.getElem?_eq_none hle] at h2
  cases h2
theorem size_many : ∀ L : PL, L.length ≤ sizeP L
  | [] => by simp
  | x :: L => by have := size_many L; rw [size_cons]; simp; omega
/-- the call's own cells -/
def OpS (ob : Nat) (x : Ow) (w : World) : Prop := w.cell? ⟨ob, 0, none⟩ = some (.int .i64 x.what) ∧ w.cell? ⟨ob, 1, none⟩ = some (.slice x.kA x.k.length x.kc) ∧ w.cell? ⟨ob, 2, none⟩ = some (.slice x.vA x.v.length x.vc) ∧ w.cell? ⟨ob, 3, none⟩ = some (.int .i64 x.n)
theorem OpS.keep {ob : Nat} {x : Ow} {w w' : World} (h : OpS ob x w) (he : w'.heap[ob]? = w.heap[ob]?) : OpS ob x w' :=
  ⟨(World.cell?_of_block he).trans h.1, (World.cell?_of_block he).trans h.2.1, (World.cell?_of_block he).trans h.2.2.1, (World.cell?_of_block he).trans h.2.2.2⟩
theorem opS_new (w : World) (x : Ow) (t : TypeId) : OpS w.heap.size x (w.alloc (.cells #[.int .i64 x.what, .slice x.kA x.k.length x.kc, .slice x.vA x.v.length x.vc, .int .i64 x.n] t)) :=
  ⟨box_cell _ _ _ 0 _ rfl, box_cell _ _ _ 1 _ rfl, box_cell _ _ _ 2 _ rfl, box_cell _ _ _ 3 _ rfl⟩
theorem jput_rj {hist : List PL} {cur : PL} {m v : List UInt8} : (if (putR cur m v).2 = 0 then hist ++ [cur] ++ [(putR cur m v).1] else hist ++ [cur]) = (jput hist cur m v).1 ++ [(jput hist cur m v).2] := by
  unfold jput
  split <;> rfl
theorem jput_okay {hist : List PL} {cur : PL} {m v : List UInt8} (h : ∀ M ∈ hist ++ [cur], Okay M) : (∀ M ∈ (jput hist cur m v).1 ++ [(jput hist cur m v).2], Okay M) ∧ (jput hist cur m v).1.length ≤ hist.length + 1 := by
  rcases jput_cases (hist := hist) (m := m) (v := v) (h cur (by simp)) with ⟨_, h2, h3⟩ | ⟨_, h2⟩
  · rw [h2]
    refine ⟨fun M hM => ?_, by simp⟩
    rcases List.mem_append.1 hM with hM | hM
    · exact h M hM
    · rw [List.mem_singleton.1 hM]; exact h3
  · rw [h2]; exact ⟨h, by simp⟩
theorem take_take {hist : List PL} {cur : PL} {k : Nat} (hk : k ≤ hist.length) : (hist ++ [cur]).take (k + 1) = hist.take k ++ [hist.getD k cur] := by
  rw [List.take_add_one, List.take_append_of_le_length hk]
  congr 1
  by_cases h : k < hist.length
  · rw [List.getElem?_append_left h, List.getD_eq_getElem?_getD, List.getElem?_eq_getElem h]; rfl
  · obtain rfl : k = hist.length := by omega
    rw [List.getElem?_append_right (Nat.le_refl _), Nat.sub_self, List.getD_eq_getElem?_getD, List.getElem?_eq_none (Nat.le_refl _)]; rfl
/-- what both journals have, and what was handed in, behind a step -/
theorem Both.opJ {w w' : World} {bj bd jb db ob : Nat} {hist : List PL} {cur : PL} {Ls : List PL} {x : Ow} (_h : Both w bj bd jb db hist cur Ls) (ho : OpS ob x w) (hob : ob < w.heap.size) (hj : Ja w jb ob) (hk : Keep w w' jb) : OpS ob x w' := ho.keep (hk ob ⟨hob, hj⟩).1
theorem Both.opD {w w' : World} {bj bd jb db ob : Nat} {hist : List PL} {cur : PL} {Ls : List PL} {x : Ow} (h : Both w bj bd jb db hist cur Ls) (ho : OpS ob x w) (hob : ob < w.heap.size) (hd : Da w db ob) (hm : Moves w w' db) : OpS ob x w' := by
  obtain ⟨dv, d1, _⟩ := h.2.cell
  obtain ⟨_, _, _, e3⟩ := hm dv d1
  exact ho.keep (e3 ob hob hd.1 (hd.2 dv d1))
theorem Ja.keep {w w' : World} {jb k : Nat} (h : Ja w jb k) (hl : k < w.heap.size) (hk : Keep w w' jb) : Ja w' jb k := (hk k ⟨hl, h⟩).2.2
theorem rjput_two {Bk : Nat → Prop} {w : World} {base db : Nat} {hist : List PL} {L : PL} {B V : Option Addr} {d f : Nat} {m v : List UInt8} (h : RJ Bk w base db (hist ++ [L])) (hB : ∀ k, w.heap.size ≤ k → Bk k) (hk : Okay L) (hn : hist.length ≤ 100000) (g : Rd w B (m.map byt)) (gv : Rd w V (v.map byt)) :
    Calls Try.prog 13 #[.pointer (some ⟨db, 0, none⟩), .slice B m.length d, .slice V v.length f] w fun e w' => e = .returned (.int .i64 (putR L m v).2) ∧ RJ Bk w' base db ((jput hist L m v).1 ++ [(jput hist L m v).2]) ∧ Below base w w' ∧ Moves w w' db := by
  have := rjput_any (d := d) (f := f) h hB hk hn g gv
  rwa [jput_rj] at this
set_option maxRecDepth 100000 in
set_option maxHeartbeats 6400000 in
theorem plays_law {A B : Option Addr} {c d : Nat} {xs : List Pr} {L : PL} {os : List Ow} {w : World} (h : St w A c xs L) (hz : xs.length ≤ 2932031007403) (g : Els owEl w B os) :
    Calls Try.prog 3 #[.slice A xs.length c, .slice B os.length d] w fun e w' => e = .returned (.bool true) ∧ Below w.heap.size w w' := by
  have hxl : ∀ x ∈ xs, (x.k ≠ [] → ∀ ad, x.kA = some ad → ad.block < w.heap.size) ∧ (x.v ≠ [] → ∀ ad, x.vA = some ad → ad.block < w.heap.size) := fun x hx => by
    obtain ⟨h1, h2⟩ := pr_rd (h.1.2 x hx)
    exact ⟨fun hl => rd_lt h1 (by simpa using hl), fun hl => rd_lt h2 (by simpa using hl)⟩
  have HXL := hid hxl
  clear hxl
  go_enter Try.func3, Try.ntmps3
  go_wp2_with fail
  refine (jhead_any w).mono ?_
  rintro e w1 ⟨rfl, hb1⟩
  by_cases hr : rightP L = true
  · go_wp2_with fail
    refine (jnew_k (Bk := fun _ => True) (fun _ _ => trivial) (h.below hb1) hz hr).mono ?_
    rintro e w2 ⟨jb, rfl, hj2, hb2⟩
    have hw : w.heap.size ≤ w1.heap.size := hb1.size
    have b2 := below_step hb1 hb2
    have hs2 := hb2.size
    have hok := okay_iff.1 hr
    have hxn : xs.length ≤ 1000000 := by have h1 := h.len; have h2 := size_many L; have h3 := hok.2.2; rw [h1]; exact Nat.le_trans h2 (Nat.le_trans h3 (by decide))
    have hjw : ∀ k, k < w1.heap.size ∨ w2.heap.size ≤ k → Ja w2 jb k := fun k hk => by
      obtain ⟨A, c, xs, uv, fs, ⟨h1, h2, h3, h4⟩, ⟨h5, h6, h7, hq⟩, h8, h9, h10⟩ := hj2
      refine ⟨by omega, fun v' hv e => ?_⟩
      obtain rfl : uv = v' := Option.some.inj (h2.symm.trans hv)
      have := own_lt h9 e; omega
    have KN := hid (rjnew_ok (Bk := Ja w2 jb) (fun k hk => hjw k (.inr hk)) (h.below b2) hxn hr (fun x hx => ⟨fun hl ad ha => ⟨hjw _ (.inl (Nat.lt_of_lt_of_le ((HXL.out x hx).1 hl ad ha) hw)), Nat.lt_of_lt_of_le ((HXL.out x hx).1 hl ad ha) b2.size⟩, fun hl ad ha => ⟨hjw _ (.inl (Nat.lt_of_lt_of_le ((HXL.out x hx).2 hl ad ha) hw)), Nat.lt_of_lt_of_le ((HXL.out x hx).2 hl ad ha) b2.size⟩⟩))
    clear hjw hxn
    go_wp2_with fail
    refine KN.out.mono ?_
    rintro e w3 ⟨db, rfl, hd3, hb3⟩
    have hBo := both_new hj2 hb3 hd3
    have b3 := below_step b2 hb3
    by_cases hg : 300 < os.length
    · go_wp2_with fail
      refine (jgreat_any w3).mono ?_
      rintro e w4 ⟨rfl, rfl⟩
      rw [decide_eq_true hg]
      go_wp2_with fail
      go_ret
      exact ⟨rfl, b3⟩
    · go_wp2_with fail
      refine (jgreat_any w3).mono ?_
      rintro e w4 ⟨rfl, rfl⟩
      rw [decide_eq_false hg]
      go_wp2_with fail
      clear KN hj2 hd3 h hr
      go_loopw [8] (fun i W => ∃ (k : Nat) (hist : List PL) (cur : PL), k ≤ os.length ∧ i = .int .i64 k ∧ hist.length ≤ k ∧ (∀ M ∈ hist ++ [cur], Okay M) ∧ Both W w1.heap.size w2.heap.size jb db hist cur (hist ++ [cur]) ∧ Below w.heap.size w W) (fun i _ => os.length - (RowKit.intOf i).toNat)
      case atStart => exact ⟨0, [], L, by omega, rfl, by simp, by simpa using hok, hBo, b3⟩
      case round =>
        obtain ⟨k, hist, cur, hk, rfl, hn, hokk, hB, hb⟩ := hrel
        by_cases hlt : k < os.length
        · obtain ⟨ad, rfl, h1, h2, h3, h4, h5, h6⟩ := ow_at g k hlt
          generalize os[k] = x at h1 h2 h3 h4 h5 h6
          have h1r := cell_on hb h1
          have h2r := cell_on hb h2
          have h3r := cell_on hb h3
          have h4r := cell_on hb h4
          have i1 : (k : Int) < os.length := by omega
          have hv0 := below_alloc wr (.cells #[.int .i64 x.what, .slice x.kA x.k.length x.kc, .slice x.vA x.v.length x.vc, .int .i64 x.n] 32)
          have hO := opS_new wr x 32
          have hJo : Ja wr jb wr.heap.size := hB.newJ _ (Nat.le_refl _)
          have hDo : Da wr db wr.heap.size := hB.newD _ (Nat.le_refl _)
          have hsz : wr.heap.size < (wr.alloc (.cells #[.int .i64 x.what, .slice x.kA x.k.length x.kc, .slice x.vA x.v.length x.vc, .int .i64 x.n] 32)).heap.size := by simp
          obtain ⟨z, hz⟩ : ∃ z, bits .and .i64 x.what 3 = z := ⟨_, rfl⟩
          obtain ⟨wv, hwv⟩ : ∃ wv, wr.alloc (.cells #[.int .i64 x.what, .slice x.kA x.k.length x.kc, .slice x.vA x.v.length x.vc, .int .i64 x.n] 32) = wv := ⟨_, rfl⟩
          rw [hwv] at hv0 hO hsz
          have hO0 := hO.1
          go_upto_region 12 with fail
          clear hwv h1r h2r h3r h4r h1 h2 h3 h4 hO0
          obtain ⟨ob, hob⟩ : ∃ ob, wr.heap.size = ob := ⟨_, rfl⟩
          have hBv := hB.below hv0
          have hbv := below_step hb hv0
          have hJv : Ja wv jb ob := hob ▸ hJo.eq (by obtain ⟨uv, u1, _⟩ := hB.1.cell; exact (cell_on hv0 u1).trans u1.symm)
          have hDv : Da wv db ob := hob ▸ hDo.eq (by obtain ⟨uv, u1, _⟩ := hB.2.cell; exact (cell_on hv0 u1).trans u1.symm)
          rw [hob] at hO hsz ⊢
          clear hJo hDo hob hB hb hv0
          clear wr
          by_cases ez : z = 0
          · subst ez
            have hdr := (Below.refl wv.heap.size wv).drew
            have hBd := hBv.below hdr
            have hbd := hbv.drew
            have hOd : OpS ob x wv.drew := hO.keep rfl
            have hJd : Ja wv.drew jb ob := hJv.eq rfl
            have hDd : Da wv.drew db ob := hDv.eq rfl
            have hszd : ob < wv.drew.heap.size := hsz
            have KJ := jput_k (d := x.kc) (f := x.vc) (v := x.v) hBd.1 hBd.newD (hokk cur (by simp)) (by omega) (h5.below hbd) (h6.below hbd)
            have KD := fun W hist2 cur2 (hW : Both W w1.heap.size w2.heap.size jb db hist2 cur2 (hist ++ [cur])) (hbW : Below w.heap.size w W) => rjput_two (d := x.kc) (f := x.vc) (v := x.v) hW.2 hW.newJ (hokk cur (by simp)) (by omega) (h5.below hbW) (h6.below hbW)
            have hjo := jput_okay (m := x.k) (v := x.v) hokk
            generalize (putR cur x.k x.v).2 = er at KJ KD
            generalize jput hist cur x.k x.v = J at KJ KD hjo
            obtain ⟨hist2, cur2⟩ := J
            dsimp only at KJ KD hjo
            have KJ := hid KJ
            have KD := hid KD
            obtain ⟨hokk2, hn2⟩ := hjo
            have hn2 : hist2.length ≤ k + 1 := by omega
            have q1 := fun W (hW : OpS ob x W) => hW.2.1
            have q2 := fun W (hW : OpS ob x W) => hW.2.2.1
            have HX := hid h5
            go_upto_region 13 with fail
            refine wp_region_noPanic ?_
            refine wp_region_held_drew (S := (fun W => OpS ob x W)) (by kernel_rfl) ?_ (fun hHeld => ?_)
            · exact hOd
            refine wpAnyH_take (i := 0) (oi := ?oi1) (v := ?v1) ?hi1 (by kernel_rfl) (by kernel_rfl) (by kernel_rfl) ?hQ1 ?hy1 (by assumption) ?hrest1
            case hi1 => (simp only [List.getElem?_toArray, List.getElem?_cons_zero]; try rfl)
            case hQ1 => exact fun _ _ _ h => h
            case hy1 =>
              refine Or.inl ⟨by rfl, ?_⟩
              (intro wq hSw; (try dsimp only at hSw); go_simp; try with_reducible rfl)
            (try simp only [Act.put, List.setIfInBounds_toArray, List.set_cons_zero, List.set_cons_succ])
            refine wpAnyH_take (i := 1) (oi := ?oi2) (v := ?v2) ?hi2 (by kernel_rfl) (by kernel_rfl) (by kernel_rfl) ?hQ2 ?hy2 (by assumption) ?hrest2
            case hi2 => (simp only [List.getElem?_toArray, List.getElem?_cons_succ, List.getElem?_cons_zero]; try rfl)
            case hQ2 => exact fun _ _ _ h => h
            case hy2 =>
              refine Or.inl ⟨by rfl, ?_⟩
              (intro wq hSw; (try dsimp only at hSw); go_simp; try with_reducible rfl)
            (try simp only [Act.put, List.setIfInBounds_toArray, List.set_cons_zero, List.set_cons_succ])
            refine wpAnyH_take (i := 2) (oi := ?oi3) (v := ?v3) ?hi3 (by kernel_rfl) (by kernel_rfl) (by kernel_rfl) ?hQ3 ?hy3 (by assumption) ?hrest3
            case hi3 => (simp only [List.getElem?_toArray, List.getElem?_cons_succ, List.getElem?_cons_zero]; try rfl)
            case hQ3 => exact fun _ _ _ h => h
            case hy3 =>
              refine Or.inl ⟨by rfl, ?_⟩
              (intro wq hSw; (try dsimp only at hSw); go_simp; try with_reducible rfl)
            (try simp only [Act.put, List.setIfInBounds_toArray, List.set_cons_zero, List.set_cons_succ])
            refine wpAnyH_take (i := 3) (oi := ?oi4) (v := ?v4) ?hi4 (by kernel_rfl) (by kernel_rfl) (by kernel_rfl) ?hQ4 ?hy4 (by assumption) ?hrest4
            case hi4 => (simp only [List.getElem?_toArray, List.getElem?_cons_succ, List.getElem?_cons_zero]; try rfl)
            case hQ4 => exact fun _ _ _ h => h
            case hy4 =>
              refine Or.inl ⟨by rfl, ?_⟩
              (intro wq hSw; (try dsimp only at hSw); go_simp; try with_reducible rfl)
            (try simp only [Act.put, List.setIfInBounds_toArray, List.set_cons_zero, List.set_cons_succ])
            refine wpAnyH_take (i := 4) (oi := ?oi5) (v := ?v5) ?hi5 (by kernel_rfl) (by kernel_rfl) (by kernel_rfl) ?hQ5 ?hy5 (by assumption) ?hrest5
            case hi5 => (simp only [List.getElem?_toArray, List.getElem?_cons_succ, List.getElem?_cons_zero]; try rfl)
            case hQ5 => exact fun _ _ _ h => h
            case hy5 =>
              refine Or.inl ⟨by rfl, ?_⟩
              (intro wq hSw; (try dsimp only at hSw); go_simp; try with_reducible rfl)
            (try simp only [Act.put, List.setIfInBounds_toArray, List.set_cons_zero, List.set_cons_succ])
            refine wpAnyH_take (i := 6) (oi := ?oi6) (v := ?v6) ?hi6 (by kernel_rfl) (by kernel_rfl) (by kernel_rfl) ?hQ6 ?hy6 (by assumption) ?hrest6
            case hi6 => (simp only [List.getElem?_toArray, List.getElem?_cons_succ, List.getElem?_cons_zero]; try rfl)
            case hQ6 => exact fun _ _ _ h => h
            case hy6 =>
              refine Or.inl ⟨by rfl, ?_⟩
              (intro wq hSw; (try dsimp only at hSw); go_simp; try with_reducible rfl)
            (try simp only [Act.put, List.setIfInBounds_toArray, List.set_cons_zero, List.set_cons_succ])
            refine wpAnyH_take (i := 7) (oi := ?oi7) (v := ?v7) ?hi7 (by kernel_rfl) (by kernel_rfl) (by kernel_rfl) ?hQ7 ?hy7 (by assumption) ?hrest7
            case hi7 => (simp only [List.getElem?_toArray, List.getElem?_cons_succ, List.getElem?_cons_zero]; try rfl)
            case hQ7 => exact fun _ _ _ h => h
            case hy7 =>
              refine Or.inl ⟨by rfl, ?_⟩
              (intro wq hSw; (try dsimp only at hSw); go_simp; try with_reducible rfl)
            (try simp only [Act.put, List.setIfInBounds_toArray, List.set_cons_zero, List.set_cons_succ])
            refine wpAnyH_take (i := 8) (oi := ?oi8) (v := ?v8) ?hi8 (by kernel_rfl) (by kernel_rfl) (by kernel_rfl) ?hQ8 ?hy8 (by assumption) ?hrest8
            case hi8 => (simp only [List.getElem?_toArray, List.getElem?_cons_succ, List.getElem?_cons_zero]; try rfl)
            case hQ8 => exact fun _ _ _ h => h
            case hy8 =>
              refine Or.inl ⟨by rfl, ?_⟩
              (intro wq hSw; (try dsimp only at hSw); go_simp; try with_reducible rfl)
            (try simp only [Act.put, List.setIfInBounds_toArray, List.set_cons_zero, List.set_cons_succ])
            refine wpAnyH_take (i := 9) (oi := ?oi9) (v := ?v9) ?hi9 (by kernel_rfl) (by kernel_rfl) (by kernel_rfl) ?hQ9 ?hy9 (by assumption) ?hrest9
            case hi9 => (simp only [List.getElem?_toArray, List.getElem?_cons_succ, List.getElem?_cons_zero]; try rfl)
            case hQ9 => exact fun _ _ _ h => h
            case hy9 =>
              refine Or.inl ⟨by rfl, ?_⟩
              (intro wq hSw; (try dsimp only at hSw); go_simp; try with_reducible rfl)
            (try simp only [Act.put, List.setIfInBounds_toArray, List.set_cons_zero, List.set_cons_succ])
            refine wpAnyH_take (i := 10) (oi := ?oi10) (v := ?v10) ?hi10 (by kernel_rfl) (by kernel_rfl) (by kernel_rfl) ?hQ10 ?hy10 (by assumption) ?hrest10
            case hi10 => (simp only [List.getElem?_toArray, List.getElem?_cons_succ, List.getElem?_cons_zero]; try rfl)
            case hQ10 => exact fun _ _ _ h => h
            case hy10 =>
              refine Or.inl ⟨by rfl, ?_⟩
              (intro wq hSw; (try dsimp only at hSw); go_simp; try with_reducible rfl)
            (try simp only [Act.put, List.setIfInBounds_toArray, List.set_cons_zero, List.set_cons_succ])
            refine wpAnyH_ready (rs := [5]) (by kernel_rfl) (by simp) ?_
            refine AllReadyH.cons (o := ?oi11) ?hi11 (fun K hK => ?hstep11) AllReadyH.nil
            case hi11 => (simp only [List.getElem?_toArray, List.getElem?_cons_succ, List.getElem?_cons_zero]; try rfl)
            go_simp
            (refine KJ.out.mono ?_; rintro e wx ⟨rfl, hjx, hbx, hkx⟩; have hBx := hBd.byJ hjx hkx hbx.size; have hbwx := hbd.trans (hbx.mono hw))
            refine hK.out _ _ ?_ (fun hHeld => ?_)
            · exact hBd.opJ hOd hszd hJd hkx
            clear hK K
            (try simp only [Act.put, List.setIfInBounds_toArray, List.set_cons_zero, List.set_cons_succ])
            refine wpAnyH_ready (rs := [11]) (by kernel_rfl) (by simp) ?_
            refine AllReadyH.cons (o := ?oi12) ?hi12 (fun K hK => ?hstep12) AllReadyH.nil
            case hi12 => (simp only [List.getElem?_toArray, List.getElem?_cons_succ, List.getElem?_cons_zero]; try rfl)
            go_simp
            (refine (KD.out wx _ _ hBx hbwx).mono ?_; rintro e wz ⟨rfl, hdz, hbz, hmz⟩; have hBz := hBx.byD hdz hmz hbz.size; have hbz := hbwx.trans (hbz.mono (Nat.le_trans hw hs2)))
            refine hK.out _ _ ?_ (fun hHeld => ?_)
            · exact hBx.opD hHeld (Nat.lt_of_lt_of_le hszd hbx.size) (hDd.eq (by obtain ⟨dv, d1, d2, _, d3, _⟩ := hBd.2.cell; exact World.cell?_of_block (a := ⟨db, 0, none⟩) (hkx db ⟨d2, d3⟩).1)) hmz
            clear hK K
            (try simp only [Act.put, List.setIfInBounds_toArray, List.set_cons_zero, List.set_cons_succ])
            refine wpAnyH_take (i := 12) (oi := ?oi13) (v := ?v13) ?hi13 (by kernel_rfl) (by kernel_rfl) (by kernel_rfl) ?hQ13 ?hy13 (by assumption) ?hrest13
            case hi13 => (simp only [List.getElem?_toArray, List.getElem?_cons_succ, List.getElem?_cons_zero]; try rfl)
            case hQ13 => exact fun _ _ _ h => h
            case hy13 =>
              refine Or.inl ⟨by rfl, ?_⟩
              (intro wq hSw; (try dsimp only at hSw); go_simp; try with_reducible rfl)
            (try simp only [Act.put, List.setIfInBounds_toArray, List.set_cons_zero, List.set_cons_succ])
            refine wpAnyH_take (i := 13) (oi := ?oi14) (v := ?v14) ?hi14 (by kernel_rfl) (by kernel_rfl) (by kernel_rfl) ?hQ14 ?hy14 (by assumption) ?hrest14
            case hi14 => (simp only [List.getElem?_toArray, List.getElem?_cons_succ, List.getElem?_cons_zero]; try rfl)
            case hQ14 => exact fun _ _ _ h => h
            case hy14 =>
              refine Or.inl ⟨by rfl, ?_⟩
              (intro wq hSw; (try dsimp only at hSw); go_simp; try with_reducible rfl)
            (try simp only [Act.put, List.setIfInBounds_toArray, List.set_cons_zero, List.set_cons_succ])
            refine wpAnyH_done (by kernel_rfl) ?_ _
            refine NoPanic.normal ?_
            clear KJ KD hBd hbd hBx hbwx hBv hbv q1 q2

            have okc : Okay cur2 := hokk2 cur2 (by simp)
            have hl2 : (hist2 ++ [cur2]).length - 1 = hist2.length := by simp
            have KM2 := rjmark_any hBz.2 (by simp) (by simp; omega)
            rw [hl2] at KM2
            have KM2 := hid KM2
            have HN2 := hid hn2
            clear hl2 hn2
            go_wp2_with fail
            refine (jmark_any hBz.1).mono ?_
            rintro e wm ⟨rfl, rfl⟩
            go_wp2_with fail
            refine KM2.out.mono ?_
            rintro e wm ⟨rfl, rfl⟩
            clear KM2
            go_wp2_with fail
            refine (jpairs_any hBz.1 okc).mono ?_
            rintro e wp ⟨C, q, ys, rfl, hst, hbp⟩
            have hB3 := hBz.below hbp
            go_wp2_with fail
            refine (rjpairs_any hB3.2 (by have := HN2.out; omega)).mono ?_
            rintro e wq ⟨dv, A2, c2, zs, rfl, hdv, hst2, hbq⟩
            have hB4 := hB3.below hbq
            have KS := hid (same_st (hst.below hbq) (hst2.below hbq).1 (by have h1 := hst.len; have h2 := size_many cur2; have h3 := okc.2.2; rw [h1]; exact Nat.le_trans h2 (Nat.le_trans h3 (by decide))))
            clear hst hst2 hdv
            go_wp2_with fail
            refine KS.out.mono ?_
            rintro e wt ⟨rfl, hbt⟩
            clear KS
            go_wp2_with fail
            go_roundw
            case rel => exact ⟨k + 1, hist2, cur2, by omega, by go_num, HN2.out, hokk2, hB4.below hbt, below_step (below_step (below_step hbz hbp) hbq) hbt⟩
            case measure => simp [RowKit.intOf]; omega
          by_cases e1 : z = 1
          · have p0 : (1 : Int) ≠ 0 := by decide
            subst e1
            have hxn := hokk cur (by simp)
            have KJ := hid (jdel_k (d := x.kc) hBv.1 hBv.newD hxn (by omega) (h5.below hbv))
            have KD := hid (fun W (hW : Both W w1.heap.size w2.heap.size jb db (hist ++ [cur]) (delP cur x.k) (hist ++ [cur])) (hbW : Below w.heap.size w W) => rjdel_any (d := x.kc) hW.2 hW.newJ hxn (by omega) (h5.below hbW))
            have hok2 := okay_del (m := x.k) hxn
            have q1 := hO.2.1
            go_wp2_with fail
            refine KJ.out.mono ?_
            rintro e wx ⟨⟨v, rfl⟩, hjx, hbx, hkx⟩
            have hBx := hBv.byJ hjx hkx hbx.size
            have hbwx := hbv.trans (hbx.mono hw)
            have q2 := (hBv.opJ hO hsz hJv hkx).2.1
            go_wp2_with fail
            refine (KD.out wx hBx hbwx).mono ?_
            rintro e wz ⟨⟨v, rfl⟩, hdz, hbz, hmz⟩
            have hBz := hBx.byD hdz hmz hbz.size
            have hbz := hbwx.trans (hbz.mono (Nat.le_trans hw hs2))
            obtain ⟨cur2, hcur2⟩ : ∃ C, delP cur x.k = C := ⟨_, rfl⟩
            obtain ⟨hist2, hhist2⟩ : ∃ C, hist ++ [cur] = C := ⟨_, rfl⟩
            have hn2 : hist2.length ≤ k + 1 := by rw [← hhist2]; simp; omega
            have hokk2 : ∀ M ∈ hist2 ++ [cur2], Okay M := fun M hM => by
              rcases List.mem_append.1 hM with hM | hM
              · rw [← hhist2] at hM; exact hokk M hM
              · rw [List.mem_singleton.1 hM, ← hcur2]; exact hok2
            rw [hcur2, hhist2] at hBz
            clear hcur2 hhist2 KJ KD hBx hbwx hBv hbv q1 q2

            have okc : Okay cur2 := hokk2 cur2 (by simp)
            have hl2 : (hist2 ++ [cur2]).length - 1 = hist2.length := by simp
            have KM2 := rjmark_any hBz.2 (by simp) (by simp; omega)
            rw [hl2] at KM2
            have KM2 := hid KM2
            have HN2 := hid hn2
            clear hl2 hn2
            go_wp2_with fail
            refine (jmark_any hBz.1).mono ?_
            rintro e wm ⟨rfl, rfl⟩
            go_wp2_with fail
            refine KM2.out.mono ?_
            rintro e wm ⟨rfl, rfl⟩
            clear KM2
            go_wp2_with fail
            refine (jpairs_any hBz.1 okc).mono ?_
            rintro e wp ⟨C, q, ys, rfl, hst, hbp⟩
            have hB3 := hBz.below hbp
            go_wp2_with fail
            refine (rjpairs_any hB3.2 (by have := HN2.out; omega)).mono ?_
            rintro e wq ⟨dv, A2, c2, zs, rfl, hdv, hst2, hbq⟩
            have hB4 := hB3.below hbq
            have KS := hid (same_st (hst.below hbq) (hst2.below hbq).1 (by have h1 := hst.len; have h2 := size_many cur2; have h3 := okc.2.2; rw [h1]; exact Nat.le_trans h2 (Nat.le_trans h3 (by decide))))
            clear hst hst2 hdv
            go_wp2_with fail
            refine KS.out.mono ?_
            rintro e wt ⟨rfl, hbt⟩
            clear KS
            go_wp2_with fail
            go_roundw
            case rel => exact ⟨k + 1, hist2, cur2, by omega, by go_num, HN2.out, hokk2, hB4.below hbt, below_step (below_step (below_step hbz hbp) hbq) hbt⟩
            case measure => simp [RowKit.intOf]; omega
          by_cases e2 : z = 2
          · subst e2
            have hdr := (Below.refl wv.heap.size wv).drew
            have hBd := hBv.below hdr
            have hbd := hbv.drew
            have hOd : OpS ob x wv.drew := hO.keep rfl
            have hJd : Ja wv.drew jb ob := hJv.eq rfl
            have hDd : Da wv.drew db ob := hDv.eq rfl
            have hszd : ob < wv.drew.heap.size := hsz
            have q1 := fun W (hW : OpS ob x W) => hW.2.2.2
            by_cases hun : 0 ≤ x.n ∧ x.n ≤ hist.length
            · obtain ⟨un, hue⟩ : ∃ un : Nat, x.n = un := ⟨x.n.toNat, by omega⟩
              have hul : un ≤ hist.length := by omega
              have KJ := jundo_k hBd.1 (by omega) un hul
              have KD := fun W hist2 cur2 (hW : Both W w1.heap.size w2.heap.size jb db hist2 cur2 (hist ++ [cur])) => rjundo_ok hW.2 hW.newJ (by omega) un hul
              rw [← hue] at KJ KD
              rw [take_take (cur := cur) hul] at KD
              obtain ⟨cur2, hcur2⟩ : ∃ C, hist.getD un cur = C := ⟨_, rfl⟩
              obtain ⟨hist2, hhist2⟩ : ∃ C, hist.take un = C := ⟨_, rfl⟩
              have hn2 : hist2.length ≤ k + 1 := by rw [← hhist2, List.length_take]; omega
              have hokk2 : ∀ M ∈ hist2 ++ [cur2], Okay M := fun M hM => hokk M (List.mem_of_mem_take (i := un + 1) (by rw [take_take (cur := cur) hul, hcur2, hhist2]; exact hM))
              rw [hcur2, hhist2] at KJ KD
              clear hcur2 hhist2 hue hun hul
              have KJ := hid KJ
              have KD := hid KD
              have HX := hid h5
              go_upto_region 18 with fail
              refine wp_region_noPanic ?_
              refine wp_region_held_drew (S := (fun W => OpS ob x W)) (by kernel_rfl) ?_ (fun hHeld => ?_)
              · exact hOd
              refine wpAnyH_take (i := 0) (oi := ?oi15) (v := ?v15) ?hi15 (by kernel_rfl) (by kernel_rfl) (by kernel_rfl) ?hQ15 ?hy15 (by assumption) ?hrest15
              case hi15 => (simp only [List.getElem?_toArray, List.getElem?_cons_zero]; try rfl)
              case hQ15 => exact fun _ _ _ h => h
              case hy15 =>
                refine Or.inl ⟨by rfl, ?_⟩
                (intro wq hSw; (try dsimp only at hSw); go_simp; try with_reducible rfl)
              (try simp only [Act.put, List.setIfInBounds_toArray, List.set_cons_zero, List.set_cons_succ])
              refine wpAnyH_take (i := 1) (oi := ?oi16) (v := ?v16) ?hi16 (by kernel_rfl) (by kernel_rfl) (by kernel_rfl) ?hQ16 ?hy16 (by assumption) ?hrest16
              case hi16 => (simp only [List.getElem?_toArray, List.getElem?_cons_succ, List.getElem?_cons_zero]; try rfl)
              case hQ16 => exact fun _ _ _ h => h
              case hy16 =>
                refine Or.inl ⟨by rfl, ?_⟩
                (intro wq hSw; (try dsimp only at hSw); go_simp; try with_reducible rfl)
              (try simp only [Act.put, List.setIfInBounds_toArray, List.set_cons_zero, List.set_cons_succ])
              refine wpAnyH_take (i := 2) (oi := ?oi17) (v := ?v17) ?hi17 (by kernel_rfl) (by kernel_rfl) (by kernel_rfl) ?hQ17 ?hy17 (by assumption) ?hrest17
              case hi17 => (simp only [List.getElem?_toArray, List.getElem?_cons_succ, List.getElem?_cons_zero]; try rfl)
              case hQ17 => exact fun _ _ _ h => h
              case hy17 =>
                refine Or.inl ⟨by rfl, ?_⟩
                (intro wq hSw; (try dsimp only at hSw); go_simp; try with_reducible rfl)
              (try simp only [Act.put, List.setIfInBounds_toArray, List.set_cons_zero, List.set_cons_succ])
              refine wpAnyH_take (i := 4) (oi := ?oi18) (v := ?v18) ?hi18 (by kernel_rfl) (by kernel_rfl) (by kernel_rfl) ?hQ18 ?hy18 (by assumption) ?hrest18
              case hi18 => (simp only [List.getElem?_toArray, List.getElem?_cons_succ, List.getElem?_cons_zero]; try rfl)
              case hQ18 => exact fun _ _ _ h => h
              case hy18 =>
                refine Or.inl ⟨by rfl, ?_⟩
                (intro wq hSw; (try dsimp only at hSw); go_simp; try with_reducible rfl)
              (try simp only [Act.put, List.setIfInBounds_toArray, List.set_cons_zero, List.set_cons_succ])
              refine wpAnyH_take (i := 5) (oi := ?oi19) (v := ?v19) ?hi19 (by kernel_rfl) (by kernel_rfl) (by kernel_rfl) ?hQ19 ?hy19 (by assumption) ?hrest19
              case hi19 => (simp only [List.getElem?_toArray, List.getElem?_cons_succ, List.getElem?_cons_zero]; try rfl)
              case hQ19 => exact fun _ _ _ h => h
              case hy19 =>
                refine Or.inl ⟨by rfl, ?_⟩
                (intro wq hSw; (try dsimp only at hSw); go_simp; try with_reducible rfl)
              (try simp only [Act.put, List.setIfInBounds_toArray, List.set_cons_zero, List.set_cons_succ])
              refine wpAnyH_take (i := 6) (oi := ?oi20) (v := ?v20) ?hi20 (by kernel_rfl) (by kernel_rfl) (by kernel_rfl) ?hQ20 ?hy20 (by assumption) ?hrest20
              case hi20 => (simp only [List.getElem?_toArray, List.getElem?_cons_succ, List.getElem?_cons_zero]; try rfl)
              case hQ20 => exact fun _ _ _ h => h
              case hy20 =>
                refine Or.inl ⟨by rfl, ?_⟩
                (intro wq hSw; (try dsimp only at hSw); go_simp; try with_reducible rfl)
              (try simp only [Act.put, List.setIfInBounds_toArray, List.set_cons_zero, List.set_cons_succ])
              refine wpAnyH_ready (rs := [3]) (by kernel_rfl) (by simp) ?_
              refine AllReadyH.cons (o := ?oi21) ?hi21 (fun K hK => ?hstep21) AllReadyH.nil
              case hi21 => (simp only [List.getElem?_toArray, List.getElem?_cons_succ, List.getElem?_cons_zero]; try rfl)
              go_simp
              (refine KJ.out.mono ?_; rintro e wx ⟨rfl, hjx, hbx, hkx⟩; have hBx := hBd.byJ hjx hkx hbx.size; have hbwx := hbd.trans (hbx.mono hw))
              refine hK.out _ _ ?_ (fun hHeld => ?_)
              · exact hBd.opJ hOd hszd hJd hkx
              clear hK K
              (try simp only [Act.put, List.setIfInBounds_toArray, List.set_cons_zero, List.set_cons_succ])
              refine wpAnyH_ready (rs := [7]) (by kernel_rfl) (by simp) ?_
              refine AllReadyH.cons (o := ?oi22) ?hi22 (fun K hK => ?hstep22) AllReadyH.nil
              case hi22 => (simp only [List.getElem?_toArray, List.getElem?_cons_succ, List.getElem?_cons_zero]; try rfl)
              go_simp
              (refine (KD.out wx _ _ hBx).mono ?_; rintro e wz ⟨rfl, hdz, hbz, hmz⟩; have hBz := hBx.byD hdz hmz hbz.size; have hbz := hbwx.trans (hbz.mono (Nat.le_trans hw hs2)))
              refine hK.out _ _ ?_ (fun hHeld => ?_)
              · exact hBx.opD hHeld (Nat.lt_of_lt_of_le hszd hbx.size) (hDd.eq (by obtain ⟨dv, d1, d2, _, d3, _⟩ := hBd.2.cell; exact World.cell?_of_block (a := ⟨db, 0, none⟩) (hkx db ⟨d2, d3⟩).1)) hmz
              clear hK K
              (try simp only [Act.put, List.setIfInBounds_toArray, List.set_cons_zero, List.set_cons_succ])
              refine wpAnyH_take (i := 8) (oi := ?oi23) (v := ?v23) ?hi23 (by kernel_rfl) (by kernel_rfl) (by kernel_rfl) ?hQ23 ?hy23 (by assumption) ?hrest23
              case hi23 => (simp only [List.getElem?_toArray, List.getElem?_cons_succ, List.getElem?_cons_zero]; try rfl)
              case hQ23 => exact fun _ _ _ h => h
              case hy23 =>
                refine Or.inl ⟨by rfl, ?_⟩
                (intro wq hSw; (try dsimp only at hSw); go_simp; try with_reducible rfl)
              (try simp only [Act.put, List.setIfInBounds_toArray, List.set_cons_zero, List.set_cons_succ])
              refine wpAnyH_take (i := 9) (oi := ?oi24) (v := ?v24) ?hi24 (by kernel_rfl) (by kernel_rfl) (by kernel_rfl) ?hQ24 ?hy24 (by assumption) ?hrest24
              case hi24 => (simp only [List.getElem?_toArray, List.getElem?_cons_succ, List.getElem?_cons_zero]; try rfl)
              case hQ24 => exact fun _ _ _ h => h
              case hy24 =>
                refine Or.inl ⟨by rfl, ?_⟩
                (intro wq hSw; (try dsimp only at hSw); go_simp; try with_reducible rfl)
              (try simp only [Act.put, List.setIfInBounds_toArray, List.set_cons_zero, List.set_cons_succ])
              refine wpAnyH_done (by kernel_rfl) ?_ _
              refine NoPanic.normal ?_
              clear KJ KD hBd hbd hBx hbwx hBv hbv q1
              have okc : Okay cur2 := hokk2 cur2 (by simp)
              have hl2 : (hist2 ++ [cur2]).length - 1 = hist2.length := by simp
              have KM2 := rjmark_any hBz.2 (by simp) (by simp; omega)
              rw [hl2] at KM2
              have KM2 := hid KM2
              have HN2 := hid hn2
              clear hl2 hn2
              go_wp2_with fail
              refine (jmark_any hBz.1).mono ?_
              rintro e wm ⟨rfl, rfl⟩
              go_wp2_with fail
              refine KM2.out.mono ?_
              rintro e wm ⟨rfl, rfl⟩
              clear KM2
              go_wp2_with fail
              refine (jpairs_any hBz.1 okc).mono ?_
              rintro e wp ⟨C, q, ys, rfl, hst, hbp⟩
              have hB3 := hBz.below hbp
              go_wp2_with fail
              refine (rjpairs_any hB3.2 (by have := HN2.out; omega)).mono ?_
              rintro e wq ⟨dv, A2, c2, zs, rfl, hdv, hst2, hbq⟩
              have hB4 := hB3.below hbq
              have KS := hid (same_st (hst.below hbq) (hst2.below hbq).1 (by have h1 := hst.len; have h2 := size_many cur2; have h3 := okc.2.2; rw [h1]; exact Nat.le_trans h2 (Nat.le_trans h3 (by decide))))
              clear hst hst2 hdv
              go_wp2_with fail
              refine KS.out.mono ?_
              rintro e wt ⟨rfl, hbt⟩
              clear KS
              go_wp2_with fail
              go_roundw
              case rel => exact ⟨k + 1, hist2, cur2, by omega, by go_num, HN2.out, hokk2, hB4.below hbt, below_step (below_step (below_step hbz hbp) hbq) hbt⟩
              case measure => simp [RowKit.intOf]; omega
            · have hun : x.n < 0 ∨ (hist.length : Int) < x.n := by omega
              have KJ := hid (jundo_no hBd.1 x.n hun)
              have KD := hid (rjundo_no hBd.2 (by omega) x.n hun)
              have HX := hid h5
              go_upto_region 18 with fail
              refine wp_region_noPanic ?_
              refine wp_region_held_drew (S := (fun W => OpS ob x W)) (by kernel_rfl) ?_ (fun hHeld => ?_)
              · exact hOd
              refine wpAnyH_take (i := 0) (oi := ?oi25) (v := ?v25) ?hi25 (by kernel_rfl) (by kernel_rfl) (by kernel_rfl) ?hQ25 ?hy25 (by assumption) ?hrest25
              case hi25 => (simp only [List.getElem?_toArray, List.getElem?_cons_zero]; try rfl)
              case hQ25 => exact fun _ _ _ h => h
              case hy25 =>
                refine Or.inl ⟨by rfl, ?_⟩
                (intro wq hSw; (try dsimp only at hSw); go_simp; try with_reducible rfl)
              (try simp only [Act.put, List.setIfInBounds_toArray, List.set_cons_zero, List.set_cons_succ])
              refine wpAnyH_take (i := 1) (oi := ?oi26) (v := ?v26) ?hi26 (by kernel_rfl) (by kernel_rfl) (by kernel_rfl) ?hQ26 ?hy26 (by assumption) ?hrest26
              case hi26 => (simp only [List.getElem?_toArray, List.getElem?_cons_succ, List.getElem?_cons_zero]; try rfl)
              case hQ26 => exact fun _ _ _ h => h
              case hy26 =>
                refine Or.inl ⟨by rfl, ?_⟩
                (intro wq hSw; (try dsimp only at hSw); go_simp; try with_reducible rfl)
              (try simp only [Act.put, List.setIfInBounds_toArray, List.set_cons_zero, List.set_cons_succ])
              refine wpAnyH_take (i := 2) (oi := ?oi27) (v := ?v27) ?hi27 (by kernel_rfl) (by kernel_rfl) (by kernel_rfl) ?hQ27 ?hy27 (by assumption) ?hrest27
              case hi27 => (simp only [List.getElem?_toArray, List.getElem?_cons_succ, List.getElem?_cons_zero]; try rfl)
              case hQ27 => exact fun _ _ _ h => h
              case hy27 =>
                refine Or.inl ⟨by rfl, ?_⟩
                (intro wq hSw; (try dsimp only at hSw); go_simp; try with_reducible rfl)
              (try simp only [Act.put, List.setIfInBounds_toArray, List.set_cons_zero, List.set_cons_succ])
              refine wpAnyH_take (i := 4) (oi := ?oi28) (v := ?v28) ?hi28 (by kernel_rfl) (by kernel_rfl) (by kernel_rfl) ?hQ28 ?hy28 (by assumption) ?hrest28
              case hi28 => (simp only [List.getElem?_toArray, List.getElem?_cons_succ, List.getElem?_cons_zero]; try rfl)
              case hQ28 => exact fun _ _ _ h => h
              case hy28 =>
                refine Or.inl ⟨by rfl, ?_⟩
                (intro wq hSw; (try dsimp only at hSw); go_simp; try with_reducible rfl)
              (try simp only [Act.put, List.setIfInBounds_toArray, List.set_cons_zero, List.set_cons_succ])
              refine wpAnyH_take (i := 5) (oi := ?oi29) (v := ?v29) ?hi29 (by kernel_rfl) (by kernel_rfl) (by kernel_rfl) ?hQ29 ?hy29 (by assumption) ?hrest29
              case hi29 => (simp only [List.getElem?_toArray, List.getElem?_cons_succ, List.getElem?_cons_zero]; try rfl)
              case hQ29 => exact fun _ _ _ h => h
              case hy29 =>
                refine Or.inl ⟨by rfl, ?_⟩
                (intro wq hSw; (try dsimp only at hSw); go_simp; try with_reducible rfl)
              (try simp only [Act.put, List.setIfInBounds_toArray, List.set_cons_zero, List.set_cons_succ])
              refine wpAnyH_take (i := 6) (oi := ?oi30) (v := ?v30) ?hi30 (by kernel_rfl) (by kernel_rfl) (by kernel_rfl) ?hQ30 ?hy30 (by assumption) ?hrest30
              case hi30 => (simp only [List.getElem?_toArray, List.getElem?_cons_succ, List.getElem?_cons_zero]; try rfl)
              case hQ30 => exact fun _ _ _ h => h
              case hy30 =>
                refine Or.inl ⟨by rfl, ?_⟩
                (intro wq hSw; (try dsimp only at hSw); go_simp; try with_reducible rfl)
              (try simp only [Act.put, List.setIfInBounds_toArray, List.set_cons_zero, List.set_cons_succ])
              refine wpAnyH_ready (rs := [3]) (by kernel_rfl) (by simp) ?_
              refine AllReadyH.cons (o := ?oi31) ?hi31 (fun K hK => ?hstep31) AllReadyH.nil
              case hi31 => (simp only [List.getElem?_toArray, List.getElem?_cons_succ, List.getElem?_cons_zero]; try rfl)
              go_simp
              (refine KJ.out.mono ?_; rintro e wx ⟨rfl, rfl⟩)
              refine hK.out _ _ ?_ (fun hHeld => ?_)
              · exact hHeld
              clear hK K
              (try simp only [Act.put, List.setIfInBounds_toArray, List.set_cons_zero, List.set_cons_succ])
              refine wpAnyH_ready (rs := [7]) (by kernel_rfl) (by simp) ?_
              refine AllReadyH.cons (o := ?oi32) ?hi32 (fun K hK => ?hstep32) AllReadyH.nil
              case hi32 => (simp only [List.getElem?_toArray, List.getElem?_cons_succ, List.getElem?_cons_zero]; try rfl)
              go_simp
              (refine KD.out.mono ?_; rintro e wz ⟨rfl, rfl⟩)
              refine hK.out _ _ ?_ (fun hHeld => ?_)
              · exact hHeld
              clear hK K
              (try simp only [Act.put, List.setIfInBounds_toArray, List.set_cons_zero, List.set_cons_succ])
              refine wpAnyH_take (i := 8) (oi := ?oi33) (v := ?v33) ?hi33 (by kernel_rfl) (by kernel_rfl) (by kernel_rfl) ?hQ33 ?hy33 (by assumption) ?hrest33
              case hi33 => (simp only [List.getElem?_toArray, List.getElem?_cons_succ, List.getElem?_cons_zero]; try rfl)
              case hQ33 => exact fun _ _ _ h => h
              case hy33 =>
                refine Or.inl ⟨by rfl, ?_⟩
                (intro wq hSw; (try dsimp only at hSw); go_simp; try with_reducible rfl)
              (try simp only [Act.put, List.setIfInBounds_toArray, List.set_cons_zero, List.set_cons_succ])
              refine wpAnyH_take (i := 9) (oi := ?oi34) (v := ?v34) ?hi34 (by kernel_rfl) (by kernel_rfl) (by kernel_rfl) ?hQ34 ?hy34 (by assumption) ?hrest34
              case hi34 => (simp only [List.getElem?_toArray, List.getElem?_cons_succ, List.getElem?_cons_zero]; try rfl)
              case hQ34 => exact fun _ _ _ h => h
              case hy34 =>
                refine Or.inl ⟨by rfl, ?_⟩
                (intro wq hSw; (try dsimp only at hSw); go_simp; try with_reducible rfl)
              (try simp only [Act.put, List.setIfInBounds_toArray, List.set_cons_zero, List.set_cons_succ])
              refine wpAnyH_done (by kernel_rfl) ?_ _
              refine NoPanic.normal ?_
              have hBz := hBd
              have hbz := hbd
              obtain ⟨cur2, hcur2⟩ : ∃ C, cur = C := ⟨_, rfl⟩
              obtain ⟨hist2, hhist2⟩ : ∃ C, hist = C := ⟨_, rfl⟩
              have hn2 : hist2.length ≤ k + 1 := by rw [← hhist2]; omega
              have hokk2 := hokk
              rw [hcur2, hhist2] at hBz hokk2
              clear hcur2 hhist2 KJ KD hBd hbd hBv hbv q1
              have okc : Okay cur2 := hokk2 cur2 (by simp)
              have hl2 : (hist2 ++ [cur2]).length - 1 = hist2.length := by simp
              have KM2 := rjmark_any hBz.2 (by simp) (by simp; omega)
              rw [hl2] at KM2
              have KM2 := hid KM2
              have HN2 := hid hn2
              clear hl2 hn2
              go_wp2_with fail
              refine (jmark_any hBz.1).mono ?_
              rintro e wm ⟨rfl, rfl⟩
              go_wp2_with fail
              refine KM2.out.mono ?_
              rintro e wm ⟨rfl, rfl⟩
              clear KM2
              go_wp2_with fail
              refine (jpairs_any hBz.1 okc).mono ?_
              rintro e wp ⟨C, q, ys, rfl, hst, hbp⟩
              have hB3 := hBz.below hbp
              go_wp2_with fail
              refine (rjpairs_any hB3.2 (by have := HN2.out; omega)).mono ?_
              rintro e wq ⟨dv, A2, c2, zs, rfl, hdv, hst2, hbq⟩
              have hB4 := hB3.below hbq
              have KS := hid (same_st (hst.below hbq) (hst2.below hbq).1 (by have h1 := hst.len; have h2 := size_many cur2; have h3 := okc.2.2; rw [h1]; exact Nat.le_trans h2 (Nat.le_trans h3 (by decide))))
              clear hst hst2 hdv
              go_wp2_with fail
              refine KS.out.mono ?_
              rintro e wt ⟨rfl, hbt⟩
              clear KS
              go_wp2_with fail
              go_roundw
              case rel => exact ⟨k + 1, hist2, cur2, by omega, by go_num, HN2.out, hokk2, hB4.below hbt, below_step (below_step (below_step hbz hbp) hbq) hbt⟩
              case measure => simp [RowKit.intOf]; omega
          by_cases e3 : z = 3
          · subst e3
            have hxn := hokk cur (by simp)
            have KJ := hid (jget_any (d := x.kc) hBv.1 hxn (h5.below hbv))
            have KD := hid (fun W (hW : Both W w1.heap.size w2.heap.size jb db hist cur (hist ++ [cur])) (hbW : Below w.heap.size w W) => rjget_any (d := x.kc) hW.2 hxn (by omega) (h5.below hbW))
            have q1 := hO.2.1
            go_wp2_with fail
            refine KJ.out.mono ?_
            rintro e wx ⟨D, kk, r, rfl, hr1, hrd1, hbx⟩
            have hBx := hBv.below hbx
            have hbwx := below_step hbv hbx
            have q2 := cell_on hbx hO.2.1
            go_wp2_with fail
            refine (KD.out wx hBx hbwx).mono ?_
            rintro e wz ⟨D2, kk2, r2, rfl, hr2, hrd2, hbz⟩
            have hBz := hBx.below hbz
            have hbz0 := hbz
            have hbz := below_step hbwx hbz
            obtain rfl : r = r2 := hr1.symm.trans hr2
            have cv1 := conv_bs (P := Try.prog) Try.underlying30 Try.underlying5 Try.underlying9 (hrd1.below hbz0) kk
            have cv2 := conv_bs (P := Try.prog) Try.underlying30 Try.underlying5 Try.underlying9 hrd2 kk2
            have se := str_eq r
            obtain ⟨cur2, hcur2⟩ : ∃ C, cur = C := ⟨_, rfl⟩
            obtain ⟨hist2, hhist2⟩ : ∃ C, hist = C := ⟨_, rfl⟩
            have hn2 : hist2.length ≤ k + 1 := by rw [← hhist2]; omega
            have hokk2 := hokk
            rw [hcur2, hhist2] at hBz hokk2
            obtain ⟨bb, hbb⟩ : ∃ bb, (getP cur x.k).isSome = bb := ⟨_, rfl⟩
            rw [hbb]
            clear hcur2 hhist2 KJ KD hBx hbwx hBv hbv q1 q2 hr1 hr2 hbb

            have okc : Okay cur2 := hokk2 cur2 (by simp)
            have hl2 : (hist2 ++ [cur2]).length - 1 = hist2.length := by simp
            have KM2 := rjmark_any hBz.2 (by simp) (by simp; omega)
            rw [hl2] at KM2
            have KM2 := hid KM2
            have HN2 := hid hn2
            clear hl2 hn2
            go_wp2_with fail
            refine (jmark_any hBz.1).mono ?_
            rintro e wm ⟨rfl, rfl⟩
            go_wp2_with fail
            refine KM2.out.mono ?_
            rintro e wm ⟨rfl, rfl⟩
            clear KM2
            go_wp2_with fail
            refine (jpairs_any hBz.1 okc).mono ?_
            rintro e wp ⟨C, q, ys, rfl, hst, hbp⟩
            have hB3 := hBz.below hbp
            go_wp2_with fail
            refine (rjpairs_any hB3.2 (by have := HN2.out; omega)).mono ?_
            rintro e wq ⟨dv, A2, c2, zs, rfl, hdv, hst2, hbq⟩
            have hB4 := hB3.below hbq
            have KS := hid (same_st (hst.below hbq) (hst2.below hbq).1 (by have h1 := hst.len; have h2 := size_many cur2; have h3 := okc.2.2; rw [h1]; exact Nat.le_trans h2 (Nat.le_trans h3 (by decide))))
            clear hst hst2 hdv
            go_wp2_with fail
            refine KS.out.mono ?_
            rintro e wt ⟨rfl, hbt⟩
            clear KS
            go_wp2_with fail
            go_roundw
            case rel => exact ⟨k + 1, hist2, cur2, by omega, by go_num, HN2.out, hokk2, hB4.below hbt, below_step (below_step (below_step hbz hbp) hbq) hbt⟩
            case measure => simp [RowKit.intOf]; omega
          have p0 : (z == 0) = false := by simpa using ez
          have p1 : (z == 1) = false := by simpa using e1
          have p2 : (z == 2) = false := by simpa using e2
          have p3 : (z == 3) = false := by simpa using e3
          have hBz := hBv
          have hbz := hbv
          obtain ⟨cur2, hcur2⟩ : ∃ C, cur = C := ⟨_, rfl⟩
          obtain ⟨hist2, hhist2⟩ : ∃ C, hist = C := ⟨_, rfl⟩
          have hn2 : hist2.length ≤ k + 1 := by rw [← hhist2]; omega
          have hokk2 := hokk
          rw [hcur2, hhist2] at hBz hokk2
          clear hcur2 hhist2 hBv hbv

          have okc : Okay cur2 := hokk2 cur2 (by simp)
          have hl2 : (hist2 ++ [cur2]).length - 1 = hist2.length := by simp
          have KM2 := rjmark_any hBz.2 (by simp) (by simp; omega)
          rw [hl2] at KM2
          have KM2 := hid KM2
          have HN2 := hid hn2
          clear hl2 hn2
          go_wp2_with fail
          refine (jmark_any hBz.1).mono ?_
          rintro e wm ⟨rfl, rfl⟩
          go_wp2_with fail
          refine KM2.out.mono ?_
          rintro e wm ⟨rfl, rfl⟩
          clear KM2
          go_wp2_with fail
          refine (jpairs_any hBz.1 okc).mono ?_
          rintro e wp ⟨C, q, ys, rfl, hst, hbp⟩
          have hB3 := hBz.below hbp
          go_wp2_with fail
          refine (rjpairs_any hB3.2 (by have := HN2.out; omega)).mono ?_
          rintro e wq ⟨dv, A2, c2, zs, rfl, hdv, hst2, hbq⟩
          have hB4 := hB3.below hbq
          have KS := hid (same_st (hst.below hbq) (hst2.below hbq).1 (by have h1 := hst.len; have h2 := size_many cur2; have h3 := okc.2.2; rw [h1]; exact Nat.le_trans h2 (Nat.le_trans h3 (by decide))))
          clear hst hst2 hdv
          go_wp2_with fail
          refine KS.out.mono ?_
          rintro e wt ⟨rfl, hbt⟩
          clear KS
          go_wp2_with fail
          go_roundw
          case rel => exact ⟨k + 1, hist2, cur2, by omega, by go_num, HN2.out, hokk2, hB4.below hbt, below_step (below_step (below_step hbz hbp) hbq) hbt⟩
          case measure => simp [RowKit.intOf]; omega
        · go_wp2_with fail
          go_ret
          exact ⟨rfl, hb⟩
  · have hr : rightP L = false := by simpa using hr
    go_wp2_with fail
    refine (jnew_no (h.below hb1) hz hr).mono ?_
    rintro e w2 ⟨rfl, hb2⟩
    have b2 := below_step hb1 hb2
    go_wp2_with fail
    refine (rjnew_no (h.below b2) hz hr).mono ?_
    rintro e w3 ⟨rfl, hb3⟩
    have b3 := below_step b2 hb3
    go_wp2_with fail
    go_ret
    exact ⟨rfl, b3⟩
end Go.Proofs.Ytlekoeddcjjjdaa
