import Derived.Test.YtlekoeddcjjjdaaJourD
namespace Go.Proofs.Ytlekoeddcjjjdaa
open Go.RowKit Go.Cov Go.Lib
variable {Bk : Nat → Prop}
theorem sl_blocks {w w' : World} {A : Option Addr} {c : Nat} {l : List UInt8} (h : Sl w (.slice A l.length c) l) (hk : ∀ ad, A = some ad → w'.heap[ad.block]? = w.heap[ad.block]?) : Sl w' (.slice A l.length c) l := by
  obtain ⟨B, d, he, h1, h2, h3⟩ := h
  injection he with e1 e2 e3
  subst e1
  exact ⟨A, d, by rw [e3], h1, h2, rd_keepG h3 hk⟩
theorem ownels_set {W : World} {base jb top : Nat} {e : TypeId} {v x : Value} {outs : List Pr} (h : OwnEls prEl W base e v outs) (hp : ∀ y ∈ outs, PrNew base top y) (hj : jb < base) : OwnEls prEl (W.setCell ⟨jb, 0, none⟩ x) base e v outs := by
  have hs : ∀ k, base ≤ k → (W.setCell ⟨jb, 0, none⟩ x).heap[k]? = W.heap[k]? := fun k hk => heap_set (by show k ≠ jb; omega)
  refine ⟨own_heap h.1 (fun k hk => hs k (own_lt h.1 hk).1), fun a ha p hpp => ⟨?_, (h.2 a ha p hpp).2⟩⟩
  have hsl := (h.2 a ha p hpp).1
  rcases List.mem_cons.1 hpp with rfl | hpp
  · exact sl_blocks hsl (fun ad hA => hs _ ((hp a ha).1 ad hA).1)
  · rw [List.mem_singleton.1 hpp] at hsl ⊢
    exact sl_blocks hsl (fun ad hA => hs _ ((hp a ha).2 ad hA).1)
theorem jnew_no {w : World} {A : Option Addr} {c : Nat} {xs : List Pr} {L : PL} (h : St w A c xs L) (hz : xs.length ≤ 2932031007403) (hr : rightP L = false) :
    Calls Try.prog 9 #[.slice A xs.length c] w fun e w' => e = .returned (.pointer none) ∧ Below w.heap.size w w' := by
  have K := right_st h hz
  rw [hr] at K
  have KR := hid K
  clear K hr
  go_enter Try.func9, Try.ntmps9
  go_wp2_with fail
  refine KR.out.mono ?_
  rintro e w1 ⟨rfl, hb⟩
  go_wp2_with fail
  go_ret
  exact ⟨rfl, hb⟩
set_option maxRecDepth 100000 in
set_option maxHeartbeats 6400000 in
theorem jnew_k {w : World} (hB : ∀ k, w.heap.size ≤ k → Bk k) {A : Option Addr} {c : Nat} {xs : List Pr} {L : PL} (h : St w A c xs L) (hz : xs.length ≤ 2932031007403) (hr : rightP L = true) :
    Calls Try.prog 9 #[.slice A xs.length c] w fun e w' => ∃ jb, e = .returned (.pointer (some ⟨jb, 0, none⟩)) ∧ JnB Bk w' w.heap.size jb [] L ∧ Below w.heap.size w w' := by
  have K := right_st h hz
  rw [hr] at K
  have KR := hid K
  have hk := okay_iff.1 hr
  have hlen := hk.len
  have hxl := h.len
  have hx256 : xs.length ≤ 256 := by omega
  have HD := hid h.2.2
  have HFIT := hid (fun x (hx : x ∈ xs) => (show x.k.length ≤ 64 ∧ x.v.length ≤ 256 from hk.2.1 x.data (by rw [← h.2.2]; exact List.mem_map_of_mem hx)))
  clear K hr hlen hxl hk
  go_enter Try.func9, Try.ntmps9
  go_wp2_with fail
  refine KR.out.mono ?_
  rintro e w1 ⟨rfl, hb1⟩
  obtain ⟨jb, hjb⟩ : ∃ jb, jb = w1.heap.size := ⟨_, rfl⟩
  have sw2 := below_alloc w1 (.cells #[.slice none 0 0, .slice none 0 0] 53)
  have J0 := box_cell w1 #[.slice none 0 0, .slice none 0 0] 53 0 _ rfl
  have J1 := box_cell w1 #[.slice none 0 0, .slice none 0 0] 53 1 _ rfl
  have F0 := World.frozen?_alloc_new (w := w1) #[.slice none 0 0, .slice none 0 0] 53 0
  have F1 := World.frozen?_alloc_new (w := w1) #[.slice none 0 0, .slice none 0 0] 53 1
  have n2 : (w1.alloc (.cells #[.slice none 0 0, .slice none 0 0] 53)).heap.size = w1.heap.size + 1 := Array.size_push ..
  have b2 := below_step hb1 sw2
  have hwj := hb1.size
  rw [← hjb] at J0 J1 F0 F1 n2 hwj
  go_wp2_with fail
  rw [← hjb]
  clear hjb
  go_loopw [13] (fun i W => ∃ (k : Nat) (vv : Value) (outs : List Pr), k ≤ xs.length ∧ i = .int .i64 k ∧ (W.cell? ⟨jb, 0, none⟩ = some vv ∧ W.cell? ⟨jb, 1, none⟩ = some (.slice none 0 0) ∧ W.frozen? ⟨jb, 0, none⟩ = false ∧ W.frozen? ⟨jb, 1, none⟩ = false) ∧ OwnEls prEl W (jb + 1) 47 vv outs ∧ (outs.map Pr.data = (xs.map Pr.data).take k ∧ ∀ y ∈ outs, PrNew (jb + 1) W.heap.size y) ∧ jb + 1 ≤ W.heap.size ∧ Below w.heap.size w W) (fun i _ => xs.length - (RowKit.intOf i).toNat)
  case atStart => exact ⟨0, _, [], by omega, rfl, ⟨J0, J1, F0, F1⟩, OwnEls.nil _ _ _ _, ⟨rfl, fun y hy => by cases hy⟩, by omega, b2⟩
  case round =>
    clear J0 J1 F0 F1 n2 sw2
    obtain ⟨k, vv, outs, hkx, rfl, ⟨J0, J1, F0, F1⟩, hown, ⟨hout, hpn⟩, hjw, hb⟩ := hrel
    by_cases hlt : k < xs.length
    · obtain ⟨ad, rfl, g1, g2, g3, g4⟩ := pr_at (h.below hb).1 k hlt
      have i1 : (k : Int) < xs.length := by omega
      have hol : outs.length = k := by have := congrArg List.length hout; rw [List.length_map, List.length_take, List.length_map] at this; omega
      have hst : (xs.map Pr.data).take (k + 1) = outs.map Pr.data ++ [xs[k].data] := by
        rw [List.take_add_one, List.getElem?_map, List.getElem?_eq_getElem hlt, hout]; rfl
      have hxf := HFIT.out xs[k] (List.getElem_mem hlt)
      have HST := hid hst
      have HOL := hid hol
      have HPN := hid hpn
      clear hst hol hout hpn
      generalize xs[k] = x at g1 g2 g3 g4 HST hxf
      unfold Pr.key at g1
      unfold Pr.val at g2
      go_upto_region 7 with fail
      obtain ⟨va, hva⟩ : ∃ va, wr.alloc (.cells #[.slice x.kA x.k.length x.kc, .slice x.vA x.v.length x.vc] 47) = va := ⟨_, rfl⟩
      have sva := below_alloc wr (.cells #[.slice x.kA x.k.length x.kc, .slice x.vA x.v.length x.vc] 47)
      have V0 := box_cell wr #[.slice x.kA x.k.length x.kc, .slice x.vA x.v.length x.vc] 47 0 _ rfl
      have V1 := box_cell wr #[.slice x.kA x.k.length x.kc, .slice x.vA x.v.length x.vc] 47 1 _ rfl
      have nva : va.heap.size = wr.heap.size + 1 := by rw [← hva]; exact Array.size_push ..
      rw [hva] at sva V0 V1 ⊢
      clear hva
      have g3 := g3.below sva
      have g4 := g4.below sva
      have ownv := hown.below sva
      have bcur := (Below.refl va.heap.size va).drew
      have owncur := ownv.below bcur
      have hbw := hb.trans (sva.mono hb.size)
      have hws := hbw.size
      have JA0 := cell_on sva J0
      have J0 := cell_on bcur JA0
      have KC1 := hid (fun W (hW : Below va.heap.size va W) => clone_any (c := x.kc) (g3.below hW) (by omega))
      have KC2 := hid (fun W (hW : Below va.heap.size va W) => clone_any (c := x.vc) (g4.below hW) (by omega))
      have VQ := fun (W : World) (hW : W.cell? ⟨wr.heap.size, 0, none⟩ = some (.slice x.kA x.k.length x.kc) ∧ W.cell? ⟨wr.heap.size, 1, none⟩ = some (.slice x.vA x.v.length x.vc)) => hW.1
      have VR := fun (W : World) (hW : W.cell? ⟨wr.heap.size, 0, none⟩ = some (.slice x.kA x.k.length x.kc) ∧ W.cell? ⟨wr.heap.size, 1, none⟩ = some (.slice x.vA x.v.length x.vc)) => hW.2
      refine wp_region_noPanic ?_
      refine wp_region_held_drew (S := (fun W => W.cell? ⟨wr.heap.size, 0, none⟩ = some (.slice x.kA x.k.length x.kc) ∧ W.cell? ⟨wr.heap.size, 1, none⟩ = some (.slice x.vA x.v.length x.vc))) (by kernel_rfl) ?_ (fun hHeld => ?_)
      · exact ⟨V0, V1⟩
      refine wpAnyH_take (i := 0) (oi := ?oi1) (v := ?v1) ?hi1 (by kernel_rfl) (by kernel_rfl) (by kernel_rfl) ?hQ1 ?hy1 (by assumption) ?hrest1
      case hi1 => (simp only [List.getElem?_toArray, List.getElem?_cons_zero]; try rfl)
      case hQ1 => exact fun _ _ _ h => h
      case hy1 =>
        refine Or.inl ⟨by rfl, ?_⟩
        (intro wq hSw; (try dsimp only at hSw); go_simp; try with_reducible rfl)
      (try simp only [Act.put, List.setIfInBounds_toArray, List.set_cons_zero, List.set_cons_succ])
      refine wpAnyH_take (i := 1) (oi := ?oi2) (v := ?v2) ?hi2 (by kernel_rfl) (by kernel_rfl) (by kernel_rfl) ?hQ2 ?hy2 (by assumption) ?hrest2
      case hi2 => (simp only [List.getElem?_toArray, List.getElem?_cons_succ, List.getElem?_cons_zero]; try rfl)
      case hQ2 => exact fun _ _ _ h => h
      case hy2 =>
        refine Or.inl ⟨by rfl, ?_⟩
        (intro wq hSw; (try dsimp only at hSw); go_simp; try with_reducible rfl)
      (try simp only [Act.put, List.setIfInBounds_toArray, List.set_cons_zero, List.set_cons_succ])
      refine wpAnyH_take (i := 2) (oi := ?oi3) (v := ?v3) ?hi3 (by kernel_rfl) (by kernel_rfl) (by kernel_rfl) ?hQ3 ?hy3 (by assumption) ?hrest3
      case hi3 => (simp only [List.getElem?_toArray, List.getElem?_cons_succ, List.getElem?_cons_zero]; try rfl)
      case hQ3 => exact fun _ _ _ h => h
      case hy3 =>
        refine Or.inl ⟨by rfl, ?_⟩
        (intro wq hSw; (try dsimp only at hSw); go_simp; try with_reducible rfl)
      (try simp only [Act.put, List.setIfInBounds_toArray, List.set_cons_zero, List.set_cons_succ])
      refine wpAnyH_take (i := 3) (oi := ?oi4) (v := ?v4) ?hi4 (by kernel_rfl) (by kernel_rfl) (by kernel_rfl) ?hQ4 ?hy4 (by assumption) ?hrest4
      case hi4 => (simp only [List.getElem?_toArray, List.getElem?_cons_succ, List.getElem?_cons_zero]; try rfl)
      case hQ4 => exact fun _ _ _ h => h
      case hy4 =>
        refine Or.inl ⟨by rfl, ?_⟩
        (intro wq hSw; (try dsimp only at hSw); go_simp; try with_reducible rfl)
      (try simp only [Act.put, List.setIfInBounds_toArray, List.set_cons_zero, List.set_cons_succ])
      refine wpAnyH_take (i := 5) (oi := ?oi5) (v := ?v5) ?hi5 (by kernel_rfl) (by kernel_rfl) (by kernel_rfl) ?hQ5 ?hy5 (by assumption) ?hrest5
      case hi5 => (simp only [List.getElem?_toArray, List.getElem?_cons_succ, List.getElem?_cons_zero]; try rfl)
      case hQ5 => exact fun _ _ _ h => h
      case hy5 =>
        refine Or.inl ⟨by rfl, ?_⟩
        (intro wq hSw; (try dsimp only at hSw); go_simp; try with_reducible rfl)
      (try simp only [Act.put, List.setIfInBounds_toArray, List.set_cons_zero, List.set_cons_succ])
      refine wpAnyH_take (i := 6) (oi := ?oi6) (v := ?v6) ?hi6 (by kernel_rfl) (by kernel_rfl) (by kernel_rfl) ?hQ6 ?hy6 (by assumption) ?hrest6
      case hi6 => (simp only [List.getElem?_toArray, List.getElem?_cons_succ, List.getElem?_cons_zero]; try rfl)
      case hQ6 => exact fun _ _ _ h => h
      case hy6 =>
        refine Or.inl ⟨by rfl, ?_⟩
        (intro wq hSw; (try dsimp only at hSw); go_simp; try with_reducible rfl)
      (try simp only [Act.put, List.setIfInBounds_toArray, List.set_cons_zero, List.set_cons_succ])
      refine wpAnyH_take (i := 8) (oi := ?oi7) (v := ?v7) ?hi7 (by kernel_rfl) (by kernel_rfl) (by kernel_rfl) ?hQ7 ?hy7 (by assumption) ?hrest7
      case hi7 => (simp only [List.getElem?_toArray, List.getElem?_cons_succ, List.getElem?_cons_zero]; try rfl)
      case hQ7 => exact fun _ _ _ h => h
      case hy7 =>
        refine Or.inl ⟨by rfl, ?_⟩
        (intro wq hSw; (try dsimp only at hSw); go_simp; try with_reducible rfl)
      (try simp only [Act.put, List.setIfInBounds_toArray, List.set_cons_zero, List.set_cons_succ])
      refine wpAnyH_take (i := 9) (oi := ?oi8) (v := ?v8) ?hi8 (by kernel_rfl) (by kernel_rfl) (by kernel_rfl) ?hQ8 ?hy8 (by assumption) ?hrest8
      case hi8 => (simp only [List.getElem?_toArray, List.getElem?_cons_succ, List.getElem?_cons_zero]; try rfl)
      case hQ8 => exact fun _ _ _ h => h
      case hy8 =>
        refine Or.inl ⟨by rfl, ?_⟩
        (intro wq hSw; (try dsimp only at hSw); go_simp; try with_reducible rfl)
      (try simp only [Act.put, List.setIfInBounds_toArray, List.set_cons_zero, List.set_cons_succ])
      refine wpAnyH_ready (rs := [4, 7]) (by kernel_rfl) (by simp) ?_
      refine AllReadyH.cons (o := ?oi9) ?hi9 (fun K hK => ?hstep9) ?hmore9
      case hi9 => (simp only [List.getElem?_toArray, List.getElem?_cons_succ, List.getElem?_cons_zero]; try rfl)
      case hstep9 =>
        go_simp
        (skip)
        refine hK.out _ _ ?_ (fun hHeld => ?_)
        · exact hHeld
        clear hK K
        (try simp only [Act.put, List.setIfInBounds_toArray, List.set_cons_zero, List.set_cons_succ])
        refine wpAnyH_ready (rs := [7]) (by kernel_rfl) (by simp) ?_
        refine AllReadyH.cons (o := ?oi10) ?hi10 (fun K hK => ?hstep10) AllReadyH.nil
        case hi10 => (simp only [List.getElem?_toArray, List.getElem?_cons_succ, List.getElem?_cons_zero]; try rfl)
        go_simp
        (refine (KC1.out _ bcur).mono ?_; rintro e wx ⟨vk, rfl, ownk, hbx⟩; obtain ⟨Ka, kc, rfl, _⟩ := own_shape ownk; have slk := own_sl ownk; have fk : ∀ ad, Ka = some ad → va.heap.size ≤ ad.block ∧ ad.block < wx.heap.size := (fun ad hA => ⟨Nat.le_trans bcur.size (own_lt ownk (k := ad.block) (by rw [hA]; rfl)).1, (own_lt ownk (k := ad.block) (by rw [hA]; rfl)).2⟩); have bcur := below_step bcur hbx; have owncur := owncur.below hbx; have J0 := cell_on hbx J0)
        refine hK.out _ _ ?_ (fun hHeld => ?_)
        · exact ⟨cell_on hbx hHeld.1, cell_on hbx hHeld.2⟩
        clear hK K
        (try simp only [Act.put, List.setIfInBounds_toArray, List.set_cons_zero, List.set_cons_succ])
        refine wpAnyH_ready (rs := [10]) (by kernel_rfl) (by simp) ?_
        refine AllReadyH.cons (o := ?oi11) ?hi11 (fun K hK => ?hstep11) AllReadyH.nil
        case hi11 => (simp only [List.getElem?_toArray, List.getElem?_cons_succ, List.getElem?_cons_zero]; try rfl)
        go_simp
        (refine (KC2.out _ bcur).mono ?_; rintro e wy ⟨vw, rfl, ownw, hbx⟩; obtain ⟨V2, vc, rfl, _⟩ := own_shape ownw; have slv := own_sl ownw; have fv : ∀ ad, V2 = some ad → va.heap.size ≤ ad.block ∧ ad.block < wy.heap.size := (fun ad hA => ⟨Nat.le_trans bcur.size (own_lt ownw (k := ad.block) (by rw [hA]; rfl)).1, (own_lt ownw (k := ad.block) (by rw [hA]; rfl)).2⟩); have fk := upA fk hbx.size; have slk := slk.keep (fun p u hp => cell_on hbx hp); have bcur := below_step bcur hbx; have owncur := owncur.below hbx; have J0 := cell_on hbx J0)
        refine hK.out _ _ ?_ (fun hHeld => ?_)
        · exact ⟨cell_on hbx hHeld.1, cell_on hbx hHeld.2⟩
        clear hK K
        (try simp only [Act.put, List.setIfInBounds_toArray, List.set_cons_zero, List.set_cons_succ])
        refine wpAnyH_take (i := 11) (oi := ?oi12) (v := ?v12) ?hi12 (by kernel_rfl) (by kernel_rfl) (by kernel_rfl) ?hQ12 ?hy12 (by assumption) ?hrest12
        case hi12 => (simp only [List.getElem?_toArray, List.getElem?_cons_succ, List.getElem?_cons_zero]; try rfl)
        case hQ12 => exact fun _ _ _ h => h
        case hy12 =>
          refine Or.inl ⟨by rfl, ?_⟩
          (intro wq hSw; (try dsimp only at hSw); go_simp; try with_reducible rfl)
        (try simp only [Act.put, List.setIfInBounds_toArray, List.set_cons_zero, List.set_cons_succ])
        refine wpAnyH_ready (rs := [12]) (by kernel_rfl) (by simp) ?_
        refine AllReadyH.cons (o := ?oi13) ?hi13 (fun K hK => ?hstep13) AllReadyH.nil
        case hi13 => (simp only [List.getElem?_toArray, List.getElem?_cons_succ, List.getElem?_cons_zero]; try rfl)
        go_simp
        ((first | refine newvar_Kd ?_ | refine newvar_K ?_); intro wz hbx nv nf nz; have n0 := nv 0 _ rfl; have n1 := nv 1 _ rfl; have fk := upA fk hbx.size; have fv := upA fv hbx.size; have slk := slk.keep (fun p u hp => cell_on hbx hp); have slv := slv.keep (fun p u hp => cell_on hbx hp); have bcur := below_step bcur hbx; have owncur := owncur.below hbx; have J0 := cell_on hbx J0; clear nv nf)
        refine hK.out _ _ ?_ (fun hHeld => ?_)
        · exact ⟨cell_on hbx hHeld.1, cell_on hbx hHeld.2⟩
        clear hK K
        (try simp only [Act.put, List.setIfInBounds_toArray, List.set_cons_zero, List.set_cons_succ])
        refine wpAnyH_ready (rs := [13]) (by kernel_rfl) (by simp) ?_
        refine AllReadyH.cons (o := ?oi14) ?hi14 (fun K hK => ?hstep14) AllReadyH.nil
        case hi14 => (simp only [List.getElem?_toArray, List.getElem?_cons_succ, List.getElem?_cons_zero]; try rfl)
        (have hoff := pr_off (W := wz) (base := va.heap.size) (v := vv) (x := ⟨Ka, kc, x.k, V2, vc, x.v⟩) (fun p hp => by rcases List.mem_cons.1 hp with rfl | hp; exact slk; rw [List.mem_singleton.1 hp]; exact slv) (fun kk hkk => (ownv.lt hkk).2) ⟨fun ad hA => (fk ad hA).1, fun ad hA => (fv ad hA).1⟩; refine oper_app2 rfl (.tmp 21) (.tmp 29) 22 rfl (jb + 1) 47 Try.underlying22 infoP rfl (by decide) vv outs.length (outs.flatMap prEl.cells) rfl owncur.1 (some ⟨_, 0, none⟩) 1 1 [.slice Ka x.k.length kc, .slice V2 x.v.length vc] rfl rfl (rd2 n0 n1) (by intro u hu; simp at hu; rcases hu with rfl | rfl <;> rfl) (by have := HOL.out; omega) (by have := HOL.out; omega) (by have h1 := bcur.size; omega) ?_; intro v5 w5 own5 hg5 hat5; have hnew := OwnEls.app (ys := [⟨Ka, kc, x.k, V2, vc, x.v⟩]) owncur.2 hoff own5 hg5 hat5; obtain ⟨C5, q5, hv5, _⟩ := own_shape own5; subst hv5; have hsz5 := hg5.size; have hjblk : w5.heap[jb]? = wr.heap[jb]? := (hg5.block jb (by have := bcur.size; omega) (fun e => by have := (hown.lt e.symm).1; omega)).trans ((bcur.block jb (by omega)).trans (sva.block jb (by omega))); have JJ0 : w5.cell? ⟨jb, 0, none⟩ = some vv := (World.cell?_of_block hjblk).trans ((World.cell?_of_block (sva.block jb (by omega))).symm.trans JA0); have JF0 : w5.frozen? ⟨jb, 0, none⟩ = false := (World.frozen?_of_block hjblk).trans F0; have JF1 : w5.frozen? ⟨jb, 1, none⟩ = false := (World.frozen?_of_block hjblk).trans F1; have JJ1 : w5.cell? ⟨jb, 1, none⟩ = some (.slice none 0 0) := (World.cell?_of_block hjblk).trans J1; have hb5 := (hbw.trans (bcur.mono hws)).grown hg5 (by have h1 := bcur.size; omega) (fun kk hkk => by have := (ownv.lt hkk).1; omega))
        refine hK.out _ _ ?_ (fun hHeld => ?_)
        · exact ⟨hg5.cell hHeld.1 (fun e => by have := (hown.lt e.symm).2; simp at this), hg5.cell hHeld.2 (fun e => by have := (hown.lt e.symm).2; simp at this)⟩
        clear hK K
        (try simp only [Act.put, List.setIfInBounds_toArray, List.set_cons_zero, List.set_cons_succ])
        refine wpAnyH_take (i := 14) (oi := ?oi15) (v := ?v15) ?hi15 (by kernel_rfl) (by kernel_rfl) (by kernel_rfl) ?hQ15 ?hy15 (by assumption) ?hrest15
        case hi15 => (simp only [List.getElem?_toArray, List.getElem?_cons_succ, List.getElem?_cons_zero]; try rfl)
        case hQ15 => exact fun _ _ _ h => h
        case hy15 =>
          refine Or.inl ⟨by rfl, ?_⟩
          (intro wq hSw; (try dsimp only at hSw); go_simp; try with_reducible rfl)
        (try simp only [Act.put, List.setIfInBounds_toArray, List.set_cons_zero, List.set_cons_succ])
        refine wpAnyH_take (i := 15) (oi := ?oi16) (v := ?v16) ?hi16 (by kernel_rfl) (by kernel_rfl) (by kernel_rfl) ?hQ16 ?hy16 (by assumption) ?hrest16
        case hi16 => (simp only [List.getElem?_toArray, List.getElem?_cons_succ, List.getElem?_cons_zero]; try rfl)
        case hQ16 => exact fun _ _ _ h => h
        case hy16 =>
          refine Or.inl ⟨by rfl, ?_⟩
          (intro wq hSw; (try dsimp only at hSw); go_simp; try with_reducible rfl)
        (try simp only [Act.put, List.setIfInBounds_toArray, List.set_cons_zero, List.set_cons_succ])
        refine wpAnyH_ready (rs := [16]) (by kernel_rfl) (by simp) ?_
        refine AllReadyH.cons (o := ?oi17) ?hi17 (fun K hK => ?hstep17) AllReadyH.nil
        case hi17 => (simp only [List.getElem?_toArray, List.getElem?_cons_succ, List.getElem?_cons_zero]; try rfl)
        go_simp
        (skip)
        refine hK.out _ _ ?_ (fun hHeld => ?_)
        · exact ⟨(World.cell?_setCell_other _ _ _ _ (fun e => by injection e with e _; omega)).trans hHeld.1, (World.cell?_setCell_other _ _ _ _ (fun e => by injection e with e _; omega)).trans hHeld.2⟩
        clear hK K
        (try simp only [Act.put, List.setIfInBounds_toArray, List.set_cons_zero, List.set_cons_succ])
        refine wpAnyH_done (by kernel_rfl) ?_ _
        refine NoPanic.normal ?_
        (have hpn5 : ∀ y ∈ outs ++ [(⟨Ka, kc, x.k, V2, vc, x.v⟩ : Pr)], PrNew (jb + 1) w5.heap.size y := (fun y hy => by rcases List.mem_append.1 hy with hy | hy; exact ⟨upA (HPN.out y hy).1 (by have := bcur.size; omega), upA (HPN.out y hy).2 (by have := bcur.size; omega)⟩; rw [List.mem_singleton.1 hy]; exact ⟨fun ad hA => ⟨by have := (fk ad hA).1; omega, Nat.lt_of_lt_of_le (fk ad hA).2 hsz5⟩, fun ad hA => ⟨by have := (fv ad hA).1; omega, Nat.lt_of_lt_of_le (fv ad hA).2 hsz5⟩⟩); go_wp2_with fail; go_roundw; (case rel => exact ⟨k + 1, _, outs ++ [⟨Ka, kc, x.k, V2, vc, x.v⟩], by omega, by go_num, ⟨World.cell?_setCell_same' _ _ _ (by rw [JJ0]; rfl), by rw [World.cell?_setCell_other _ _ _ _ (by simp)]; exact JJ1, by rw [World.frozen?_setCell]; exact JF0, by rw [World.frozen?_setCell]; exact JF1⟩, ownels_set hnew hpn5 (Nat.lt_succ_self _), ⟨by rw [List.map_append, HST.out]; rfl, by simpa using hpn5⟩, by have := bcur.size; simp; omega, hb5.setCell (p := ⟨jb, 0, none⟩) hwj _⟩); (case measure => simp [RowKit.intOf]; omega))
      refine AllReadyH.cons (o := ?oi18) ?hi18 (fun K hK => ?hstep18) ?hmore18
      case hi18 => (simp only [List.getElem?_toArray, List.getElem?_cons_succ, List.getElem?_cons_zero]; try rfl)
      case hstep18 =>
        go_simp
        (refine (KC1.out _ bcur).mono ?_; rintro e wx ⟨vk, rfl, ownk, hbx⟩; obtain ⟨Ka, kc, rfl, _⟩ := own_shape ownk; have slk := own_sl ownk; have fk : ∀ ad, Ka = some ad → va.heap.size ≤ ad.block ∧ ad.block < wx.heap.size := (fun ad hA => ⟨Nat.le_trans bcur.size (own_lt ownk (k := ad.block) (by rw [hA]; rfl)).1, (own_lt ownk (k := ad.block) (by rw [hA]; rfl)).2⟩); have bcur := below_step bcur hbx; have owncur := owncur.below hbx; have J0 := cell_on hbx J0)
        refine hK.out _ _ ?_ (fun hHeld => ?_)
        · exact ⟨cell_on hbx hHeld.1, cell_on hbx hHeld.2⟩
        clear hK K
        (try simp only [Act.put, List.setIfInBounds_toArray, List.set_cons_zero, List.set_cons_succ])
        refine wpAnyH_ready (rs := [4, 10]) (by kernel_rfl) (by simp) ?_
        refine AllReadyH.cons (o := ?oi19) ?hi19 (fun K hK => ?hstep19) ?hmore19
        case hi19 => (simp only [List.getElem?_toArray, List.getElem?_cons_succ, List.getElem?_cons_zero]; try rfl)
        case hstep19 =>
          go_simp
          (skip)
          refine hK.out _ _ ?_ (fun hHeld => ?_)
          · exact hHeld
          clear hK K
          (try simp only [Act.put, List.setIfInBounds_toArray, List.set_cons_zero, List.set_cons_succ])
          refine wpAnyH_ready (rs := [10]) (by kernel_rfl) (by simp) ?_
          refine AllReadyH.cons (o := ?oi20) ?hi20 (fun K hK => ?hstep20) AllReadyH.nil
          case hi20 => (simp only [List.getElem?_toArray, List.getElem?_cons_succ, List.getElem?_cons_zero]; try rfl)
          go_simp
          (refine (KC2.out _ bcur).mono ?_; rintro e wy ⟨vw, rfl, ownw, hbx⟩; obtain ⟨V2, vc, rfl, _⟩ := own_shape ownw; have slv := own_sl ownw; have fv : ∀ ad, V2 = some ad → va.heap.size ≤ ad.block ∧ ad.block < wy.heap.size := (fun ad hA => ⟨Nat.le_trans bcur.size (own_lt ownw (k := ad.block) (by rw [hA]; rfl)).1, (own_lt ownw (k := ad.block) (by rw [hA]; rfl)).2⟩); have fk := upA fk hbx.size; have slk := slk.keep (fun p u hp => cell_on hbx hp); have bcur := below_step bcur hbx; have owncur := owncur.below hbx; have J0 := cell_on hbx J0)
          refine hK.out _ _ ?_ (fun hHeld => ?_)
          · exact ⟨cell_on hbx hHeld.1, cell_on hbx hHeld.2⟩
          clear hK K
          (try simp only [Act.put, List.setIfInBounds_toArray, List.set_cons_zero, List.set_cons_succ])
          refine wpAnyH_take (i := 11) (oi := ?oi21) (v := ?v21) ?hi21 (by kernel_rfl) (by kernel_rfl) (by kernel_rfl) ?hQ21 ?hy21 (by assumption) ?hrest21
          case hi21 => (simp only [List.getElem?_toArray, List.getElem?_cons_succ, List.getElem?_cons_zero]; try rfl)
          case hQ21 => exact fun _ _ _ h => h
          case hy21 =>
            refine Or.inl ⟨by rfl, ?_⟩
            (intro wq hSw; (try dsimp only at hSw); go_simp; try with_reducible rfl)
          (try simp only [Act.put, List.setIfInBounds_toArray, List.set_cons_zero, List.set_cons_succ])
          refine wpAnyH_ready (rs := [12]) (by kernel_rfl) (by simp) ?_
          refine AllReadyH.cons (o := ?oi22) ?hi22 (fun K hK => ?hstep22) AllReadyH.nil
          case hi22 => (simp only [List.getElem?_toArray, List.getElem?_cons_succ, List.getElem?_cons_zero]; try rfl)
          go_simp
          ((first | refine newvar_Kd ?_ | refine newvar_K ?_); intro wz hbx nv nf nz; have n0 := nv 0 _ rfl; have n1 := nv 1 _ rfl; have fk := upA fk hbx.size; have fv := upA fv hbx.size; have slk := slk.keep (fun p u hp => cell_on hbx hp); have slv := slv.keep (fun p u hp => cell_on hbx hp); have bcur := below_step bcur hbx; have owncur := owncur.below hbx; have J0 := cell_on hbx J0; clear nv nf)
          refine hK.out _ _ ?_ (fun hHeld => ?_)
          · exact ⟨cell_on hbx hHeld.1, cell_on hbx hHeld.2⟩
          clear hK K
          (try simp only [Act.put, List.setIfInBounds_toArray, List.set_cons_zero, List.set_cons_succ])
          refine wpAnyH_ready (rs := [13]) (by kernel_rfl) (by simp) ?_
          refine AllReadyH.cons (o := ?oi23) ?hi23 (fun K hK => ?hstep23) AllReadyH.nil
          case hi23 => (simp only [List.getElem?_toArray, List.getElem?_cons_succ, List.getElem?_cons_zero]; try rfl)
          (have hoff := pr_off (W := wz) (base := va.heap.size) (v := vv) (x := ⟨Ka, kc, x.k, V2, vc, x.v⟩) (fun p hp => by rcases List.mem_cons.1 hp with rfl | hp; exact slk; rw [List.mem_singleton.1 hp]; exact slv) (fun kk hkk => (ownv.lt hkk).2) ⟨fun ad hA => (fk ad hA).1, fun ad hA => (fv ad hA).1⟩; refine oper_app2 rfl (.tmp 21) (.tmp 29) 22 rfl (jb + 1) 47 Try.underlying22 infoP rfl (by decide) vv outs.length (outs.flatMap prEl.cells) rfl owncur.1 (some ⟨_, 0, none⟩) 1 1 [.slice Ka x.k.length kc, .slice V2 x.v.length vc] rfl rfl (rd2 n0 n1) (by intro u hu; simp at hu; rcases hu with rfl | rfl <;> rfl) (by have := HOL.out; omega) (by have := HOL.out; omega) (by have h1 := bcur.size; omega) ?_; intro v5 w5 own5 hg5 hat5; have hnew := OwnEls.app (ys := [⟨Ka, kc, x.k, V2, vc, x.v⟩]) owncur.2 hoff own5 hg5 hat5; obtain ⟨C5, q5, hv5, _⟩ := own_shape own5; subst hv5; have hsz5 := hg5.size; have hjblk : w5.heap[jb]? = wr.heap[jb]? := (hg5.block jb (by have := bcur.size; omega) (fun e => by have := (hown.lt e.symm).1; omega)).trans ((bcur.block jb (by omega)).trans (sva.block jb (by omega))); have JJ0 : w5.cell? ⟨jb, 0, none⟩ = some vv := (World.cell?_of_block hjblk).trans ((World.cell?_of_block (sva.block jb (by omega))).symm.trans JA0); have JF0 : w5.frozen? ⟨jb, 0, none⟩ = false := (World.frozen?_of_block hjblk).trans F0; have JF1 : w5.frozen? ⟨jb, 1, none⟩ = false := (World.frozen?_of_block hjblk).trans F1; have JJ1 : w5.cell? ⟨jb, 1, none⟩ = some (.slice none 0 0) := (World.cell?_of_block hjblk).trans J1; have hb5 := (hbw.trans (bcur.mono hws)).grown hg5 (by have h1 := bcur.size; omega) (fun kk hkk => by have := (ownv.lt hkk).1; omega))
          refine hK.out _ _ ?_ (fun hHeld => ?_)
          · exact ⟨hg5.cell hHeld.1 (fun e => by have := (hown.lt e.symm).2; simp at this), hg5.cell hHeld.2 (fun e => by have := (hown.lt e.symm).2; simp at this)⟩
          clear hK K
          (try simp only [Act.put, List.setIfInBounds_toArray, List.set_cons_zero, List.set_cons_succ])
          refine wpAnyH_take (i := 14) (oi := ?oi24) (v := ?v24) ?hi24 (by kernel_rfl) (by kernel_rfl) (by kernel_rfl) ?hQ24 ?hy24 (by assumption) ?hrest24
          case hi24 => (simp only [List.getElem?_toArray, List.getElem?_cons_succ, List.getElem?_cons_zero]; try rfl)
          case hQ24 => exact fun _ _ _ h => h
          case hy24 =>
            refine Or.inl ⟨by rfl, ?_⟩
            (intro wq hSw; (try dsimp only at hSw); go_simp; try with_reducible rfl)
          (try simp only [Act.put, List.setIfInBounds_toArray, List.set_cons_zero, List.set_cons_succ])
          refine wpAnyH_take (i := 15) (oi := ?oi25) (v := ?v25) ?hi25 (by kernel_rfl) (by kernel_rfl) (by kernel_rfl) ?hQ25 ?hy25 (by assumption) ?hrest25
          case hi25 => (simp only [List.getElem?_toArray, List.getElem?_cons_succ, List.getElem?_cons_zero]; try rfl)
          case hQ25 => exact fun _ _ _ h => h
          case hy25 =>
            refine Or.inl ⟨by rfl, ?_⟩
            (intro wq hSw; (try dsimp only at hSw); go_simp; try with_reducible rfl)
          (try simp only [Act.put, List.setIfInBounds_toArray, List.set_cons_zero, List.set_cons_succ])
          refine wpAnyH_ready (rs := [16]) (by kernel_rfl) (by simp) ?_
          refine AllReadyH.cons (o := ?oi26) ?hi26 (fun K hK => ?hstep26) AllReadyH.nil
          case hi26 => (simp only [List.getElem?_toArray, List.getElem?_cons_succ, List.getElem?_cons_zero]; try rfl)
          go_simp
          (skip)
          refine hK.out _ _ ?_ (fun hHeld => ?_)
          · exact ⟨(World.cell?_setCell_other _ _ _ _ (fun e => by injection e with e _; omega)).trans hHeld.1, (World.cell?_setCell_other _ _ _ _ (fun e => by injection e with e _; omega)).trans hHeld.2⟩
          clear hK K
          (try simp only [Act.put, List.setIfInBounds_toArray, List.set_cons_zero, List.set_cons_succ])
          refine wpAnyH_done (by kernel_rfl) ?_ _
          refine NoPanic.normal ?_
          (have hpn5 : ∀ y ∈ outs ++ [(⟨Ka, kc, x.k, V2, vc, x.v⟩ : Pr)], PrNew (jb + 1) w5.heap.size y := (fun y hy => by rcases List.mem_append.1 hy with hy | hy; exact ⟨upA (HPN.out y hy).1 (by have := bcur.size; omega), upA (HPN.out y hy).2 (by have := bcur.size; omega)⟩; rw [List.mem_singleton.1 hy]; exact ⟨fun ad hA => ⟨by have := (fk ad hA).1; omega, Nat.lt_of_lt_of_le (fk ad hA).2 hsz5⟩, fun ad hA => ⟨by have := (fv ad hA).1; omega, Nat.lt_of_lt_of_le (fv ad hA).2 hsz5⟩⟩); go_wp2_with fail; go_roundw; (case rel => exact ⟨k + 1, _, outs ++ [⟨Ka, kc, x.k, V2, vc, x.v⟩], by omega, by go_num, ⟨World.cell?_setCell_same' _ _ _ (by rw [JJ0]; rfl), by rw [World.cell?_setCell_other _ _ _ _ (by simp)]; exact JJ1, by rw [World.frozen?_setCell]; exact JF0, by rw [World.frozen?_setCell]; exact JF1⟩, ownels_set hnew hpn5 (Nat.lt_succ_self _), ⟨by rw [List.map_append, HST.out]; rfl, by simpa using hpn5⟩, by have := bcur.size; simp; omega, hb5.setCell (p := ⟨jb, 0, none⟩) hwj _⟩); (case measure => simp [RowKit.intOf]; omega))
        refine AllReadyH.cons (o := ?oi27) ?hi27 (fun K hK => ?hstep27) ?hmore27
        case hi27 => (simp only [List.getElem?_toArray, List.getElem?_cons_succ, List.getElem?_cons_zero]; try rfl)
        case hstep27 =>
          go_simp
          (refine (KC2.out _ bcur).mono ?_; rintro e wy ⟨vw, rfl, ownw, hbx⟩; obtain ⟨V2, vc, rfl, _⟩ := own_shape ownw; have slv := own_sl ownw; have fv : ∀ ad, V2 = some ad → va.heap.size ≤ ad.block ∧ ad.block < wy.heap.size := (fun ad hA => ⟨Nat.le_trans bcur.size (own_lt ownw (k := ad.block) (by rw [hA]; rfl)).1, (own_lt ownw (k := ad.block) (by rw [hA]; rfl)).2⟩); have fk := upA fk hbx.size; have slk := slk.keep (fun p u hp => cell_on hbx hp); have bcur := below_step bcur hbx; have owncur := owncur.below hbx; have J0 := cell_on hbx J0)
          refine hK.out _ _ ?_ (fun hHeld => ?_)
          · exact ⟨cell_on hbx hHeld.1, cell_on hbx hHeld.2⟩
          clear hK K
          (try simp only [Act.put, List.setIfInBounds_toArray, List.set_cons_zero, List.set_cons_succ])
          refine wpAnyH_take (i := 11) (oi := ?oi28) (v := ?v28) ?hi28 (by kernel_rfl) (by kernel_rfl) (by kernel_rfl) ?hQ28 ?hy28 (by assumption) ?hrest28
          case hi28 => (simp only [List.getElem?_toArray, List.getElem?_cons_succ, List.getElem?_cons_zero]; try rfl)
          case hQ28 => exact fun _ _ _ h => h
          case hy28 =>
            refine Or.inl ⟨by rfl, ?_⟩
            (intro wq hSw; (try dsimp only at hSw); go_simp; try with_reducible rfl)
          (try simp only [Act.put, List.setIfInBounds_toArray, List.set_cons_zero, List.set_cons_succ])
          refine wpAnyH_ready (rs := [4, 12]) (by kernel_rfl) (by simp) ?_
          refine AllReadyH.cons (o := ?oi29) ?hi29 (fun K hK => ?hstep29) ?hmore29
          case hi29 => (simp only [List.getElem?_toArray, List.getElem?_cons_succ, List.getElem?_cons_zero]; try rfl)
          case hstep29 =>
            go_simp
            (skip)
            refine hK.out _ _ ?_ (fun hHeld => ?_)
            · exact hHeld
            clear hK K
            (try simp only [Act.put, List.setIfInBounds_toArray, List.set_cons_zero, List.set_cons_succ])
            refine wpAnyH_ready (rs := [12]) (by kernel_rfl) (by simp) ?_
            refine AllReadyH.cons (o := ?oi30) ?hi30 (fun K hK => ?hstep30) AllReadyH.nil
            case hi30 => (simp only [List.getElem?_toArray, List.getElem?_cons_succ, List.getElem?_cons_zero]; try rfl)
            go_simp
            ((first | refine newvar_Kd ?_ | refine newvar_K ?_); intro wz hbx nv nf nz; have n0 := nv 0 _ rfl; have n1 := nv 1 _ rfl; have fk := upA fk hbx.size; have fv := upA fv hbx.size; have slk := slk.keep (fun p u hp => cell_on hbx hp); have slv := slv.keep (fun p u hp => cell_on hbx hp); have bcur := below_step bcur hbx; have owncur := owncur.below hbx; have J0 := cell_on hbx J0; clear nv nf)
            refine hK.out _ _ ?_ (fun hHeld => ?_)
            · exact ⟨cell_on hbx hHeld.1, cell_on hbx hHeld.2⟩
            clear hK K
            (try simp only [Act.put, List.setIfInBounds_toArray, List.set_cons_zero, List.set_cons_succ])
            refine wpAnyH_ready (rs := [13]) (by kernel_rfl) (by simp) ?_
            refine AllReadyH.cons (o := ?oi31) ?hi31 (fun K hK => ?hstep31) AllReadyH.nil
            case hi31 => (simp only [List.getElem?_toArray, List.getElem?_cons_succ, List.getElem?_cons_zero]; try rfl)
            (have hoff := pr_off (W := wz) (base := va.heap.size) (v := vv) (x := ⟨Ka, kc, x.k, V2, vc, x.v⟩) (fun p hp => by rcases List.mem_cons.1 hp with rfl | hp; exact slk; rw [List.mem_singleton.1 hp]; exact slv) (fun kk hkk => (ownv.lt hkk).2) ⟨fun ad hA => (fk ad hA).1, fun ad hA => (fv ad hA).1⟩; refine oper_app2 rfl (.tmp 21) (.tmp 29) 22 rfl (jb + 1) 47 Try.underlying22 infoP rfl (by decide) vv outs.length (outs.flatMap prEl.cells) rfl owncur.1 (some ⟨_, 0, none⟩) 1 1 [.slice Ka x.k.length kc, .slice V2 x.v.length vc] rfl rfl (rd2 n0 n1) (by intro u hu; simp at hu; rcases hu with rfl | rfl <;> rfl) (by have := HOL.out; omega) (by have := HOL.out; omega) (by have h1 := bcur.size; omega) ?_; intro v5 w5 own5 hg5 hat5; have hnew := OwnEls.app (ys := [⟨Ka, kc, x.k, V2, vc, x.v⟩]) owncur.2 hoff own5 hg5 hat5; obtain ⟨C5, q5, hv5, _⟩ := own_shape own5; subst hv5; have hsz5 := hg5.size; have hjblk : w5.heap[jb]? = wr.heap[jb]? := (hg5.block jb (by have := bcur.size; omega) (fun e => by have := (hown.lt e.symm).1; omega)).trans ((bcur.block jb (by omega)).trans (sva.block jb (by omega))); have JJ0 : w5.cell? ⟨jb, 0, none⟩ = some vv := (World.cell?_of_block hjblk).trans ((World.cell?_of_block (sva.block jb (by omega))).symm.trans JA0); have JF0 : w5.frozen? ⟨jb, 0, none⟩ = false := (World.frozen?_of_block hjblk).trans F0; have JF1 : w5.frozen? ⟨jb, 1, none⟩ = false := (World.frozen?_of_block hjblk).trans F1; have JJ1 : w5.cell? ⟨jb, 1, none⟩ = some (.slice none 0 0) := (World.cell?_of_block hjblk).trans J1; have hb5 := (hbw.trans (bcur.mono hws)).grown hg5 (by have h1 := bcur.size; omega) (fun kk hkk => by have := (ownv.lt hkk).1; omega))
            refine hK.out _ _ ?_ (fun hHeld => ?_)
            · exact ⟨hg5.cell hHeld.1 (fun e => by have := (hown.lt e.symm).2; simp at this), hg5.cell hHeld.2 (fun e => by have := (hown.lt e.symm).2; simp at this)⟩
            clear hK K
            (try simp only [Act.put, List.setIfInBounds_toArray, List.set_cons_zero, List.set_cons_succ])
            refine wpAnyH_take (i := 14) (oi := ?oi32) (v := ?v32) ?hi32 (by kernel_rfl) (by kernel_rfl) (by kernel_rfl) ?hQ32 ?hy32 (by assumption) ?hrest32
            case hi32 => (simp only [List.getElem?_toArray, List.getElem?_cons_succ, List.getElem?_cons_zero]; try rfl)
            case hQ32 => exact fun _ _ _ h => h
            case hy32 =>
              refine Or.inl ⟨by rfl, ?_⟩
              (intro wq hSw; (try dsimp only at hSw); go_simp; try with_reducible rfl)
            (try simp only [Act.put, List.setIfInBounds_toArray, List.set_cons_zero, List.set_cons_succ])
            refine wpAnyH_take (i := 15) (oi := ?oi33) (v := ?v33) ?hi33 (by kernel_rfl) (by kernel_rfl) (by kernel_rfl) ?hQ33 ?hy33 (by assumption) ?hrest33
            case hi33 => (simp only [List.getElem?_toArray, List.getElem?_cons_succ, List.getElem?_cons_zero]; try rfl)
            case hQ33 => exact fun _ _ _ h => h
            case hy33 =>
              refine Or.inl ⟨by rfl, ?_⟩
              (intro wq hSw; (try dsimp only at hSw); go_simp; try with_reducible rfl)
            (try simp only [Act.put, List.setIfInBounds_toArray, List.set_cons_zero, List.set_cons_succ])
            refine wpAnyH_ready (rs := [16]) (by kernel_rfl) (by simp) ?_
            refine AllReadyH.cons (o := ?oi34) ?hi34 (fun K hK => ?hstep34) AllReadyH.nil
            case hi34 => (simp only [List.getElem?_toArray, List.getElem?_cons_succ, List.getElem?_cons_zero]; try rfl)
            go_simp
            (skip)
            refine hK.out _ _ ?_ (fun hHeld => ?_)
            · exact ⟨(World.cell?_setCell_other _ _ _ _ (fun e => by injection e with e _; omega)).trans hHeld.1, (World.cell?_setCell_other _ _ _ _ (fun e => by injection e with e _; omega)).trans hHeld.2⟩
            clear hK K
            (try simp only [Act.put, List.setIfInBounds_toArray, List.set_cons_zero, List.set_cons_succ])
            refine wpAnyH_done (by kernel_rfl) ?_ _
            refine NoPanic.normal ?_
            (have hpn5 : ∀ y ∈ outs ++ [(⟨Ka, kc, x.k, V2, vc, x.v⟩ : Pr)], PrNew (jb + 1) w5.heap.size y := (fun y hy => by rcases List.mem_append.1 hy with hy | hy; exact ⟨upA (HPN.out y hy).1 (by have := bcur.size; omega), upA (HPN.out y hy).2 (by have := bcur.size; omega)⟩; rw [List.mem_singleton.1 hy]; exact ⟨fun ad hA => ⟨by have := (fk ad hA).1; omega, Nat.lt_of_lt_of_le (fk ad hA).2 hsz5⟩, fun ad hA => ⟨by have := (fv ad hA).1; omega, Nat.lt_of_lt_of_le (fv ad hA).2 hsz5⟩⟩); go_wp2_with fail; go_roundw; (case rel => exact ⟨k + 1, _, outs ++ [⟨Ka, kc, x.k, V2, vc, x.v⟩], by omega, by go_num, ⟨World.cell?_setCell_same' _ _ _ (by rw [JJ0]; rfl), by rw [World.cell?_setCell_other _ _ _ _ (by simp)]; exact JJ1, by rw [World.frozen?_setCell]; exact JF0, by rw [World.frozen?_setCell]; exact JF1⟩, ownels_set hnew hpn5 (Nat.lt_succ_self _), ⟨by rw [List.map_append, HST.out]; rfl, by simpa using hpn5⟩, by have := bcur.size; simp; omega, hb5.setCell (p := ⟨jb, 0, none⟩) hwj _⟩); (case measure => simp [RowKit.intOf]; omega))
          refine AllReadyH.cons (o := ?oi35) ?hi35 (fun K hK => ?hstep35) ?hmore35
          case hi35 => (simp only [List.getElem?_toArray, List.getElem?_cons_succ, List.getElem?_cons_zero]; try rfl)
          case hstep35 =>
            go_simp
            ((first | refine newvar_Kd ?_ | refine newvar_K ?_); intro wz hbx nv nf nz; have n0 := nv 0 _ rfl; have n1 := nv 1 _ rfl; have fk := upA fk hbx.size; have fv := upA fv hbx.size; have slk := slk.keep (fun p u hp => cell_on hbx hp); have slv := slv.keep (fun p u hp => cell_on hbx hp); have bcur := below_step bcur hbx; have owncur := owncur.below hbx; have J0 := cell_on hbx J0; clear nv nf)
            refine hK.out _ _ ?_ (fun hHeld => ?_)
            · exact ⟨cell_on hbx hHeld.1, cell_on hbx hHeld.2⟩
            clear hK K
            (try simp only [Act.put, List.setIfInBounds_toArray, List.set_cons_zero, List.set_cons_succ])
            refine wpAnyH_ready (rs := [4]) (by kernel_rfl) (by simp) ?_
            refine AllReadyH.cons (o := ?oi36) ?hi36 (fun K hK => ?hstep36) AllReadyH.nil
            case hi36 => (simp only [List.getElem?_toArray, List.getElem?_cons_succ, List.getElem?_cons_zero]; try rfl)
            go_simp
            (skip)
            refine hK.out _ _ ?_ (fun hHeld => ?_)
            · exact hHeld
            clear hK K
            (try simp only [Act.put, List.setIfInBounds_toArray, List.set_cons_zero, List.set_cons_succ])
            refine wpAnyH_ready (rs := [13]) (by kernel_rfl) (by simp) ?_
            refine AllReadyH.cons (o := ?oi37) ?hi37 (fun K hK => ?hstep37) AllReadyH.nil
            case hi37 => (simp only [List.getElem?_toArray, List.getElem?_cons_succ, List.getElem?_cons_zero]; try rfl)
            (have hoff := pr_off (W := wz) (base := va.heap.size) (v := vv) (x := ⟨Ka, kc, x.k, V2, vc, x.v⟩) (fun p hp => by rcases List.mem_cons.1 hp with rfl | hp; exact slk; rw [List.mem_singleton.1 hp]; exact slv) (fun kk hkk => (ownv.lt hkk).2) ⟨fun ad hA => (fk ad hA).1, fun ad hA => (fv ad hA).1⟩; refine oper_app2 rfl (.tmp 21) (.tmp 29) 22 rfl (jb + 1) 47 Try.underlying22 infoP rfl (by decide) vv outs.length (outs.flatMap prEl.cells) rfl owncur.1 (some ⟨_, 0, none⟩) 1 1 [.slice Ka x.k.length kc, .slice V2 x.v.length vc] rfl rfl (rd2 n0 n1) (by intro u hu; simp at hu; rcases hu with rfl | rfl <;> rfl) (by have := HOL.out; omega) (by have := HOL.out; omega) (by have h1 := bcur.size; omega) ?_; intro v5 w5 own5 hg5 hat5; have hnew := OwnEls.app (ys := [⟨Ka, kc, x.k, V2, vc, x.v⟩]) owncur.2 hoff own5 hg5 hat5; obtain ⟨C5, q5, hv5, _⟩ := own_shape own5; subst hv5; have hsz5 := hg5.size; have hjblk : w5.heap[jb]? = wr.heap[jb]? := (hg5.block jb (by have := bcur.size; omega) (fun e => by have := (hown.lt e.symm).1; omega)).trans ((bcur.block jb (by omega)).trans (sva.block jb (by omega))); have JJ0 : w5.cell? ⟨jb, 0, none⟩ = some vv := (World.cell?_of_block hjblk).trans ((World.cell?_of_block (sva.block jb (by omega))).symm.trans JA0); have JF0 : w5.frozen? ⟨jb, 0, none⟩ = false := (World.frozen?_of_block hjblk).trans F0; have JF1 : w5.frozen? ⟨jb, 1, none⟩ = false := (World.frozen?_of_block hjblk).trans F1; have JJ1 : w5.cell? ⟨jb, 1, none⟩ = some (.slice none 0 0) := (World.cell?_of_block hjblk).trans J1; have hb5 := (hbw.trans (bcur.mono hws)).grown hg5 (by have h1 := bcur.size; omega) (fun kk hkk => by have := (ownv.lt hkk).1; omega))
            refine hK.out _ _ ?_ (fun hHeld => ?_)
            · exact ⟨hg5.cell hHeld.1 (fun e => by have := (hown.lt e.symm).2; simp at this), hg5.cell hHeld.2 (fun e => by have := (hown.lt e.symm).2; simp at this)⟩
            clear hK K
            (try simp only [Act.put, List.setIfInBounds_toArray, List.set_cons_zero, List.set_cons_succ])
            refine wpAnyH_take (i := 14) (oi := ?oi38) (v := ?v38) ?hi38 (by kernel_rfl) (by kernel_rfl) (by kernel_rfl) ?hQ38 ?hy38 (by assumption) ?hrest38
            case hi38 => (simp only [List.getElem?_toArray, List.getElem?_cons_succ, List.getElem?_cons_zero]; try rfl)
            case hQ38 => exact fun _ _ _ h => h
            case hy38 =>
              refine Or.inl ⟨by rfl, ?_⟩
              (intro wq hSw; (try dsimp only at hSw); go_simp; try with_reducible rfl)
            (try simp only [Act.put, List.setIfInBounds_toArray, List.set_cons_zero, List.set_cons_succ])
            refine wpAnyH_take (i := 15) (oi := ?oi39) (v := ?v39) ?hi39 (by kernel_rfl) (by kernel_rfl) (by kernel_rfl) ?hQ39 ?hy39 (by assumption) ?hrest39
            case hi39 => (simp only [List.getElem?_toArray, List.getElem?_cons_succ, List.getElem?_cons_zero]; try rfl)
            case hQ39 => exact fun _ _ _ h => h
            case hy39 =>
              refine Or.inl ⟨by rfl, ?_⟩
              (intro wq hSw; (try dsimp only at hSw); go_simp; try with_reducible rfl)
            (try simp only [Act.put, List.setIfInBounds_toArray, List.set_cons_zero, List.set_cons_succ])
            refine wpAnyH_ready (rs := [16]) (by kernel_rfl) (by simp) ?_
            refine AllReadyH.cons (o := ?oi40) ?hi40 (fun K hK => ?hstep40) AllReadyH.nil
            case hi40 => (simp only [List.getElem?_toArray, List.getElem?_cons_succ, List.getElem?_cons_zero]; try rfl)
            go_simp
            (skip)
            refine hK.out _ _ ?_ (fun hHeld => ?_)
            · exact ⟨(World.cell?_setCell_other _ _ _ _ (fun e => by injection e with e _; omega)).trans hHeld.1, (World.cell?_setCell_other _ _ _ _ (fun e => by injection e with e _; omega)).trans hHeld.2⟩
            clear hK K
            (try simp only [Act.put, List.setIfInBounds_toArray, List.set_cons_zero, List.set_cons_succ])
            refine wpAnyH_done (by kernel_rfl) ?_ _
            refine NoPanic.normal ?_
            (have hpn5 : ∀ y ∈ outs ++ [(⟨Ka, kc, x.k, V2, vc, x.v⟩ : Pr)], PrNew (jb + 1) w5.heap.size y := (fun y hy => by rcases List.mem_append.1 hy with hy | hy; exact ⟨upA (HPN.out y hy).1 (by have := bcur.size; omega), upA (HPN.out y hy).2 (by have := bcur.size; omega)⟩; rw [List.mem_singleton.1 hy]; exact ⟨fun ad hA => ⟨by have := (fk ad hA).1; omega, Nat.lt_of_lt_of_le (fk ad hA).2 hsz5⟩, fun ad hA => ⟨by have := (fv ad hA).1; omega, Nat.lt_of_lt_of_le (fv ad hA).2 hsz5⟩⟩); go_wp2_with fail; go_roundw; (case rel => exact ⟨k + 1, _, outs ++ [⟨Ka, kc, x.k, V2, vc, x.v⟩], by omega, by go_num, ⟨World.cell?_setCell_same' _ _ _ (by rw [JJ0]; rfl), by rw [World.cell?_setCell_other _ _ _ _ (by simp)]; exact JJ1, by rw [World.frozen?_setCell]; exact JF0, by rw [World.frozen?_setCell]; exact JF1⟩, ownels_set hnew hpn5 (Nat.lt_succ_self _), ⟨by rw [List.map_append, HST.out]; rfl, by simpa using hpn5⟩, by have := bcur.size; simp; omega, hb5.setCell (p := ⟨jb, 0, none⟩) hwj _⟩); (case measure => simp [RowKit.intOf]; omega))
          exact AllReadyH.nil
        exact AllReadyH.nil
      exact AllReadyH.nil
    · obtain rfl : k = xs.length := by omega
      rw [List.take_of_length_le (by simp), HD.out] at hout
      obtain ⟨C, q, rfl, hs⟩ := own_st hown
      have hcl := fun ad (hA : C = some ad) => hown.lt (k := ad.block) (by rw [hA]; rfl)
      rw [hout] at hs
      clear hout
      go_wp2_with fail
      go_ret
      refine ⟨jb, rfl, ⟨C, q, outs, .slice none 0 0, [], ⟨J0, J1, F0, F1⟩, ⟨hwj, by omega, by simp [Value.ownBlock], hB _ hwj, fun k hk => by simp [Value.ownBlock] at hk⟩, ⟨hs, fun ad hA => ⟨(hcl ad hA).2, by have := (hcl ad hA).1; omega, by simp [Value.ownBlock], hB _ (by have := (hcl ad hA).1; omega)⟩, fun y hy => ⟨fun _ ad hA => ⟨((hpn y hy).1 ad hA).2, by have := ((hpn y hy).1 ad hA).1; omega, by simp [Value.ownBlock], hB _ (by have := ((hpn y hy).1 ad hA).1; omega)⟩, fun _ ad hA => ⟨((hpn y hy).2 ad hA).2, by have := ((hpn y hy).2 ad hA).1; omega, by simp [Value.ownBlock], hB _ (by have := ((hpn y hy).2 ad hA).1; omega)⟩⟩⟩, World.ownsRow_nil _ _ _ _, fun i L' hi => by simp at hi⟩, hb⟩
theorem jnew_ok {w : World} {A : Option Addr} {c : Nat} {xs : List Pr} {L : PL} (h : St w A c xs L) (hz : xs.length ≤ 2932031007403) (hr : rightP L = true) :
    Calls Try.prog 9 #[.slice A xs.length c] w fun e w' => ∃ jb, e = .returned (.pointer (some ⟨jb, 0, none⟩)) ∧ Jn w' w.heap.size jb [] L ∧ Below w.heap.size w w' := jnew_k (fun _ _ => trivial) h hz hr
end Go.Proofs.Ytlekoeddcjjjdaa
