import Derived.Test.YtlekoeddcjjjdaaJourC
import Derived.Test.YtlekoeddcjjjdaaPlain1
namespace Go.Proofs.Ytlekoeddcjjjdaa
open Go.RowKit Go.Cov Go.Lib
variable {Bk : Nat → Prop}
theorem pr_off {W : World} {base : Nat} {v : Value} {x : Pr} (h : ∀ p ∈ prEl.cons x, Sl W p.1 p.2) (hv : ∀ k, v.ownBlock = some k → k < base) (hk : (∀ ad, x.kA = some ad → base ≤ ad.block) ∧ ∀ ad, x.vA = some ad → base ≤ ad.block) : Off prEl W v [x] := by
  intro a ha p hp
  rw [List.mem_singleton.1 ha] at hp
  refine ⟨h p hp, fun hl hn he => ?_⟩
  obtain ⟨k, hvk⟩ := Option.ne_none_iff_exists'.1 hn
  have hlt := hv k hvk
  rw [hvk] at he
  rcases List.mem_cons.1 hp with rfl | hp
  · cases hA : x.kA with
    | none => simp [Pr.key, hA, Value.ownBlock] at he
    | some ad => have := hk.1 ad hA; simp [Pr.key, hA, Value.ownBlock] at he; omega
  · rw [List.mem_singleton.1 hp] at he
    cases hA : x.vA with
    | none => simp [Pr.val, hA, Value.ownBlock] at he
    | some ad => have := hk.2 ad hA; simp [Pr.val, hA, Value.ownBlock] at he; omega
theorem wrt_app {wz w5 : World} {v : Value} {y : Pr} (hW : Wrt wz y.vA y.v.length) (hlt : ∀ ad, y.vA = some ad → ad.block < wz.heap.size) (hoff : y.v ≠ [] → v.ownBlock ≠ none → y.val.ownBlock ≠ v.ownBlock) (hg : wz.grownBy w5 v.ownBlock) : Wrt w5 y.vA y.v.length := by
  by_cases hv : y.v = []
  · intro j hj; rw [hv] at hj; simp at hj
  · refine hW.keep fun ad hA => hg.block _ (hlt ad hA) fun e => ?_
    refine hoff hv (by rw [← e]; simp) ?_
    rw [← e]; unfold Pr.val; rw [hA]; rfl
set_option maxRecDepth 100000 in
set_option maxHeartbeats 3200000 in
theorem jpairs_k {w : World} {base jb : Nat} {hist : List PL} {cur : PL} (h : JnB Bk w base jb hist cur) (hk : Okay cur) :
    Calls Try.prog 23 #[.pointer (some ⟨jb, 0, none⟩)] w fun e w' => ∃ C q ys, e = .returned (.slice C (ys : List Pr).length q) ∧ St w' C q ys cur ∧ Below w.heap.size w w' ∧ OwnEls prEl w' w.heap.size 47 (.slice C ys.length q) ys ∧ ∀ y ∈ ys, PrNew w.heap.size w'.heap.size y ∧ Wrt w' y.vA y.v.length := by
  obtain ⟨A, c, xs, uv, fs, ⟨h1, h2, h3, h4⟩, ⟨h5, h6, h7, hq⟩, h8, h9, h10⟩ := h
  have hlen := hk.len
  have hxl := h8.1.len
  have hx256 : xs.length ≤ 256 := by omega
  have HXL := hid hxl
  have HD := hid h8.1.2.2
  have hfit := fun x (hx : x ∈ xs) => (show x.k.length ≤ 64 ∧ x.v.length ≤ 256 from hk.2.1 x.data (by rw [← h8.1.2.2]; exact List.mem_map_of_mem hx))
  have HFIT := hid hfit
  clear hfit hxl hlen
  go_enter Try.func23, Try.ntmps23
  go_wp2_with fail
  go_loopw [3, 11] (fun v i W => ∃ (k : Nat) (outs : List Pr), k ≤ xs.length ∧ i = .int .i64 k ∧ OwnEls prEl W w.heap.size 47 v outs ∧ (outs.map Pr.data = (xs.map Pr.data).take k ∧ ∀ y ∈ outs, PrNew w.heap.size W.heap.size y ∧ Wrt W y.vA y.v.length) ∧ Below w.heap.size w W) (fun _ i _ => xs.length - (RowKit.intOf i).toNat)
  case atStart => exact ⟨0, [], by omega, rfl, OwnEls.nil _ _ _ _, ⟨rfl, fun y hy => by cases hy⟩, Below.refl _ _⟩
  case round =>
    obtain ⟨k, outs, hkx, rfl, hown, ⟨hout, hpn⟩, hb⟩ := hrel
    by_cases hlt : k < xs.length
    · obtain ⟨ad, rfl, g1, g2, g3, g4⟩ := pr_at (h8.1.below hb).1 k hlt
      have i1 : (k : Int) < xs.length := by omega
      have hol : outs.length = k := by have := congrArg List.length hout; rw [List.length_map, List.length_take, List.length_map] at this; omega
      have hst : (xs.map Pr.data).take (k + 1) = outs.map Pr.data ++ [xs[k].data] := by
        rw [List.take_add_one, List.getElem?_map, List.getElem?_eq_getElem hlt, hout]; rfl
      have hxf := HFIT.out xs[k] (List.getElem_mem hlt)
      have HST := hid hst
      have HOL := hid hol
      have HPN := hid hpn
      clear hst hol hout hpn
      generalize xs[k] = x at g1 g2 g3 g4 HST hxf
      unfold Pr.key at g1
      unfold Pr.val at g2
      go_upto_region 5 with fail
      obtain ⟨va, hva⟩ : ∃ va, wr.alloc (.cells #[.slice x.kA x.k.length x.kc, .slice x.vA x.v.length x.vc] 47) = va := ⟨_, rfl⟩
      have sva := below_alloc wr (.cells #[.slice x.kA x.k.length x.kc, .slice x.vA x.v.length x.vc] 47)
      have V0 := box_cell wr #[.slice x.kA x.k.length x.kc, .slice x.vA x.v.length x.vc] 47 0 _ rfl
      have V1 := box_cell wr #[.slice x.kA x.k.length x.kc, .slice x.vA x.v.length x.vc] 47 1 _ rfl
      have nva : va.heap.size = wr.heap.size + 1 := by rw [← hva]; exact Array.size_push ..
      rw [hva] at sva V0 V1 ⊢
      clear hva
      have g3 := g3.below sva
      have g4 := g4.below sva
      have ownv := hown.below sva
      have bcur := (Below.refl va.heap.size va).drew
      have owncur := ownv.below bcur
      have KC1 := hid (fun W (hW : Below va.heap.size va W) => clone_any (c := x.kc) (g3.below hW) (by omega))
      have KC2 := hid (fun W (hW : Below va.heap.size va W) => clone_any (c := x.vc) (g4.below hW) (by omega))
      have VQ := fun (W : World) (hW : W.cell? ⟨wr.heap.size, 0, none⟩ = some (.slice x.kA x.k.length x.kc) ∧ W.cell? ⟨wr.heap.size, 1, none⟩ = some (.slice x.vA x.v.length x.vc)) => hW.1
      have VR := fun (W : World) (hW : W.cell? ⟨wr.heap.size, 0, none⟩ = some (.slice x.kA x.k.length x.kc) ∧ W.cell? ⟨wr.heap.size, 1, none⟩ = some (.slice x.vA x.v.length x.vc)) => hW.2
      have hws := hb.size
      refine wp_region_noPanic ?_
      refine wp_region_held_drew (S := (fun W => W.cell? ⟨wr.heap.size, 0, none⟩ = some (.slice x.kA x.k.length x.kc) ∧ W.cell? ⟨wr.heap.size, 1, none⟩ = some (.slice x.vA x.v.length x.vc))) (by kernel_rfl) ?_ (fun hHeld => ?_)
      · exact ⟨V0, V1⟩
      refine wpAnyH_take (i := 0) (oi := ?oi1) (v := ?v1) ?hi1 (by kernel_rfl) (by kernel_rfl) (by kernel_rfl) ?hQ1 ?hy1 (by assumption) ?hrest1
      case hi1 => (simp only [List.getElem?_toArray, List.getElem?_cons_zero]; try rfl)
      case hQ1 => exact fun _ _ _ h => h
      case hy1 =>
        refine Or.inl ⟨by rfl, ?_⟩
        (intro wq hSw; (try dsimp only at hSw); go_simp; try with_reducible rfl)
      (try simp only [Act.put, List.setIfInBounds_toArray, List.set_cons_zero, List.set_cons_succ])
      refine wpAnyH_take (i := 1) (oi := ?oi2) (v := ?v2) ?hi2 (by kernel_rfl) (by kernel_rfl) (by kernel_rfl) ?hQ2 ?hy2 (by assumption) ?hrest2
      case hi2 => (simp only [List.getElem?_toArray, List.getElem?_cons_succ, List.getElem?_cons_zero]; try rfl)
      case hQ2 => exact fun _ _ _ h => h
      case hy2 =>
        refine Or.inl ⟨by rfl, ?_⟩
        (intro wq hSw; (try dsimp only at hSw); go_simp; try with_reducible rfl)
      (try simp only [Act.put, List.setIfInBounds_toArray, List.set_cons_zero, List.set_cons_succ])
      refine wpAnyH_take (i := 2) (oi := ?oi3) (v := ?v3) ?hi3 (by kernel_rfl) (by kernel_rfl) (by kernel_rfl) ?hQ3 ?hy3 (by assumption) ?hrest3
      case hi3 => (simp only [List.getElem?_toArray, List.getElem?_cons_succ, List.getElem?_cons_zero]; try rfl)
      case hQ3 => exact fun _ _ _ h => h
      case hy3 =>
        refine Or.inl ⟨by rfl, ?_⟩
        (intro wq hSw; (try dsimp only at hSw); go_simp; try with_reducible rfl)
      (try simp only [Act.put, List.setIfInBounds_toArray, List.set_cons_zero, List.set_cons_succ])
      refine wpAnyH_take (i := 4) (oi := ?oi4) (v := ?v4) ?hi4 (by kernel_rfl) (by kernel_rfl) (by kernel_rfl) ?hQ4 ?hy4 (by assumption) ?hrest4
      case hi4 => (simp only [List.getElem?_toArray, List.getElem?_cons_succ, List.getElem?_cons_zero]; try rfl)
      case hQ4 => exact fun _ _ _ h => h
      case hy4 =>
        refine Or.inl ⟨by rfl, ?_⟩
        (intro wq hSw; (try dsimp only at hSw); go_simp; try with_reducible rfl)
      (try simp only [Act.put, List.setIfInBounds_toArray, List.set_cons_zero, List.set_cons_succ])
      refine wpAnyH_take (i := 5) (oi := ?oi5) (v := ?v5) ?hi5 (by kernel_rfl) (by kernel_rfl) (by kernel_rfl) ?hQ5 ?hy5 (by assumption) ?hrest5
      case hi5 => (simp only [List.getElem?_toArray, List.getElem?_cons_succ, List.getElem?_cons_zero]; try rfl)
      case hQ5 => exact fun _ _ _ h => h
      case hy5 =>
        refine Or.inl ⟨by rfl, ?_⟩
        (intro wq hSw; (try dsimp only at hSw); go_simp; try with_reducible rfl)
      (try simp only [Act.put, List.setIfInBounds_toArray, List.set_cons_zero, List.set_cons_succ])
      refine wpAnyH_ready (rs := [3]) (by kernel_rfl) (by simp) ?_
      refine AllReadyH.cons (o := ?oi6) ?hi6 (fun K hK => ?hstep6) AllReadyH.nil
      case hi6 => (simp only [List.getElem?_toArray, List.getElem?_cons_succ, List.getElem?_cons_zero]; try rfl)
      go_simp
      (refine (KC1.out _ bcur).mono ?_; rintro e wx ⟨vk, rfl, ownk, hbx⟩; obtain ⟨Ka, kc, rfl, _⟩ := own_shape ownk; have slk := own_sl ownk; have fk : ∀ ad, Ka = some ad → va.heap.size ≤ ad.block ∧ ad.block < wx.heap.size := (fun ad hA => ⟨Nat.le_trans bcur.size (own_lt ownk (k := ad.block) (by rw [hA]; rfl)).1, (own_lt ownk (k := ad.block) (by rw [hA]; rfl)).2⟩); have bcur := below_step bcur hbx; have owncur := owncur.below hbx)
      refine hK.out _ _ ?_ (fun hHeld => ?_)
      · exact ⟨cell_on hbx hHeld.1, cell_on hbx hHeld.2⟩
      clear hK K
      (try simp only [Act.put, List.setIfInBounds_toArray, List.set_cons_zero, List.set_cons_succ])
      refine wpAnyH_ready (rs := [6]) (by kernel_rfl) (by simp) ?_
      refine AllReadyH.cons (o := ?oi7) ?hi7 (fun K hK => ?hstep7) AllReadyH.nil
      case hi7 => (simp only [List.getElem?_toArray, List.getElem?_cons_succ, List.getElem?_cons_zero]; try rfl)
      go_simp
      (refine (KC2.out _ bcur).mono ?_; rintro e wy ⟨vw, rfl, ownw, hbx⟩; obtain ⟨V2, vc, rfl, _⟩ := own_shape ownw; have slv := own_sl ownw; have wrv := wrt_own ownw; have fv : ∀ ad, V2 = some ad → va.heap.size ≤ ad.block ∧ ad.block < wy.heap.size := (fun ad hA => ⟨Nat.le_trans bcur.size (own_lt ownw (k := ad.block) (by rw [hA]; rfl)).1, (own_lt ownw (k := ad.block) (by rw [hA]; rfl)).2⟩); have fk := upA fk hbx.size; have slk := slk.keep (fun p u hp => cell_on hbx hp); have bcur := below_step bcur hbx; have owncur := owncur.below hbx)
      refine hK.out _ _ ?_ (fun hHeld => ?_)
      · exact ⟨cell_on hbx hHeld.1, cell_on hbx hHeld.2⟩
      clear hK K
      (try simp only [Act.put, List.setIfInBounds_toArray, List.set_cons_zero, List.set_cons_succ])
      refine wpAnyH_take (i := 7) (oi := ?oi8) (v := ?v8) ?hi8 (by kernel_rfl) (by kernel_rfl) (by kernel_rfl) ?hQ8 ?hy8 (by assumption) ?hrest8
      case hi8 => (simp only [List.getElem?_toArray, List.getElem?_cons_succ, List.getElem?_cons_zero]; try rfl)
      case hQ8 => exact fun _ _ _ h => h
      case hy8 =>
        refine Or.inl ⟨by rfl, ?_⟩
        (intro wq hSw; (try dsimp only at hSw); go_simp; try with_reducible rfl)
      (try simp only [Act.put, List.setIfInBounds_toArray, List.set_cons_zero, List.set_cons_succ])
      refine wpAnyH_ready (rs := [8]) (by kernel_rfl) (by simp) ?_
      refine AllReadyH.cons (o := ?oi9) ?hi9 (fun K hK => ?hstep9) AllReadyH.nil
      case hi9 => (simp only [List.getElem?_toArray, List.getElem?_cons_succ, List.getElem?_cons_zero]; try rfl)
      go_simp
      ((first | refine newvar_Kd ?_ | refine newvar_K ?_); intro wz hbx nv nf nz; have wrv := wrv.below hbx; have n0 := nv 0 _ rfl; have n1 := nv 1 _ rfl; have fk := upA fk hbx.size; have fv := upA fv hbx.size; have slk := slk.keep (fun p u hp => cell_on hbx hp); have slv := slv.keep (fun p u hp => cell_on hbx hp); have bcur := below_step bcur hbx; have owncur := owncur.below hbx; clear nv nf)
      refine hK.out _ _ ?_ (fun hHeld => ?_)
      · exact ⟨cell_on hbx hHeld.1, cell_on hbx hHeld.2⟩
      clear hK K
      (try simp only [Act.put, List.setIfInBounds_toArray, List.set_cons_zero, List.set_cons_succ])
      refine wpAnyH_ready (rs := [9]) (by kernel_rfl) (by simp) ?_
      refine AllReadyH.cons (o := ?oi10) ?hi10 (fun K hK => ?hstep10) AllReadyH.nil
      case hi10 => (simp only [List.getElem?_toArray, List.getElem?_cons_succ, List.getElem?_cons_zero]; try rfl)
      (have hoff := pr_off (W := wz) (base := va.heap.size) (v := u3) (x := ⟨Ka, kc, x.k, V2, vc, x.v⟩) (fun p hp => by rcases List.mem_cons.1 hp with rfl | hp; exact slk; rw [List.mem_singleton.1 hp]; exact slv) (fun kk hkk => (ownv.lt hkk).2) ⟨fun ad hA => (fk ad hA).1, fun ad hA => (fv ad hA).1⟩; refine oper_app2 rfl (.tmp 15) (.tmp 23) 22 rfl w.heap.size 47 Try.underlying22 infoP rfl (by decide) u3 outs.length (outs.flatMap prEl.cells) rfl owncur.1 (some ⟨_, 0, none⟩) 1 1 [.slice Ka x.k.length kc, .slice V2 x.v.length vc] rfl rfl (rd2 n0 n1) (by intro u hu; simp at hu; rcases hu with rfl | rfl <;> rfl) (by have := HOL.out; omega) (by have := HOL.out; omega) (by have h1 := bcur.size; have h2 := sva.size; omega) ?_; intro v5 w5 own5 hg5 hat5; have hnew := OwnEls.app (ys := [⟨Ka, kc, x.k, V2, vc, x.v⟩]) owncur.2 hoff own5 hg5 hat5; have hb5 := ((hb.trans (sva.mono hws)).trans (bcur.mono (by have := sva.size; omega))).grown hg5 (by have h1 := bcur.size; have h2 := sva.size; omega) (fun kk hkk => (ownv.lt hkk).1); have hwva : w.heap.size ≤ va.heap.size := (by have h2 := sva.size; omega); have hpn5 : ∀ y ∈ outs ++ [(⟨Ka, kc, x.k, V2, vc, x.v⟩ : Pr)], PrNew w.heap.size w5.heap.size y ∧ Wrt w5 y.vA y.v.length := (fun y hy => by rcases List.mem_append.1 hy with hy | hy; (have hp := HPN.out y hy; have hz5 : wr.heap.size ≤ w5.heap.size := (by have h1 := bcur.size; have h2 := sva.size; have h3 := hg5.size; omega); exact ⟨⟨upA hp.1.1 hz5, upA hp.1.2 hz5⟩, wrt_app ((hp.2.below sva).below bcur) (fun ad hA => by have h1 := bcur.size; have h2 := sva.size; have h3 := (hp.1.2 ad hA).2; omega) ((hown.2 y hy (y.val, y.v) (by simp [prEl])).2) hg5⟩); (rw [List.mem_singleton.1 hy]; have hz5 := hg5.size; exact ⟨⟨fun ad hA => ⟨Nat.le_trans hwva (fk ad hA).1, Nat.lt_of_lt_of_le (fk ad hA).2 hz5⟩, fun ad hA => ⟨Nat.le_trans hwva (fv ad hA).1, Nat.lt_of_lt_of_le (fv ad hA).2 hz5⟩⟩, wrt_app (y := ⟨Ka, kc, x.k, V2, vc, x.v⟩) wrv (fun ad hA => (fv ad hA).2) ((hoff ⟨Ka, kc, x.k, V2, vc, x.v⟩ (List.mem_singleton_self _) (_, x.v) (by simp [prEl]; exact .inr rfl)).2) hg5⟩)))
      refine hK.out _ _ ?_ (fun hHeld => ?_)
      · exact ⟨hg5.cell hHeld.1 (fun e => by have := (hown.lt e.symm).2; simp at this), hg5.cell hHeld.2 (fun e => by have := (hown.lt e.symm).2; simp at this)⟩
      clear hK K
      (try simp only [Act.put, List.setIfInBounds_toArray, List.set_cons_zero, List.set_cons_succ])
      refine wpAnyH_take (i := 10) (oi := ?oi11) (v := ?v11) ?hi11 (by kernel_rfl) (by kernel_rfl) (by kernel_rfl) ?hQ11 ?hy11 (by assumption) ?hrest11
      case hi11 => (simp only [List.getElem?_toArray, List.getElem?_cons_succ, List.getElem?_cons_zero]; try rfl)
      case hQ11 => exact fun _ _ _ h => h
      case hy11 =>
        refine Or.inl ⟨by rfl, ?_⟩
        (intro wq hSw; (try dsimp only at hSw); go_simp; try with_reducible rfl)
      (try simp only [Act.put, List.setIfInBounds_toArray, List.set_cons_zero, List.set_cons_succ])
      refine wpAnyH_done (by kernel_rfl) ?_ _
      refine NoPanic.normal ?_
      go_wp2_with fail
      go_roundw
      case rel =>
        refine ⟨k + 1, _, by omega, by go_num, hnew, ⟨?_, hpn5⟩, hb5⟩
        rw [List.map_append, HST.out]
        rfl
      case measure => simp [RowKit.intOf]; omega
    · obtain rfl : k = xs.length := by omega
      rw [List.take_of_length_le (by simp)] at hout
      obtain ⟨C, q, rfl, hs⟩ := own_st hown
      rw [hout] at hs
      clear hout
      go_wp2_with fail
      go_ret
      exact ⟨C, q, outs, rfl, by rw [← HD.out]; exact hs, hb, hown, hpn⟩
theorem jpairs_any {w : World} {base jb : Nat} {hist : List PL} {cur : PL} (h : JnB Bk w base jb hist cur) (hk : Okay cur) :
    Calls Try.prog 23 #[.pointer (some ⟨jb, 0, none⟩)] w fun e w' => ∃ C q ys, e = .returned (.slice C (ys : List Pr).length q) ∧ St w' C q ys cur ∧ Below w.heap.size w w' :=
  (jpairs_k h hk).mono fun _ _ ⟨C, q, ys, h1, h2, h3, _⟩ => ⟨C, q, ys, h1, h2, h3⟩
end Go.Proofs.Ytlekoeddcjjjdaa
