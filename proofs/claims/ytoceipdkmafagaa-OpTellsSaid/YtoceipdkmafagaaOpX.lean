import Derived.Test.YtoceipdkmafagaaWires1
import Derived.Test.YtoceipdkmafagaaPlain1
/-! the ref's op: a text's bytes, a value's bytes -/
namespace Go.Proofs.Ytoceipdkmafagaa
open Go.RowKit Go.Cov
theorem rtext_any {A : Option Addr} {c : Nat} {l : List UInt8} {w : World} (h : Rd w A (l.map byt)) (hl : l.length ≤ 65536) :
    Calls Try.prog 32 #[.slice A l.length c] w fun e w' => ∃ v, e = .returned v ∧ w'.ownsRow w.heap.size 5 1 v (tx l).length ((tx l).map byt) ∧ Below w.heap.size w w' := by
  have hp : putBytesR l = (tx l, 0) := by rw [putBytesR, if_pos hl]
  have K := rputbytes_any (c := c) h
  rw [hp] at K
  go_enter Try.func32, Try.ntmps32
  go_wp2_with fail
  refine K.mono ?_
  rintro e w2 ⟨v, rfl, own2, hb⟩
  go_wp2_with fail
  go_ret
  exact ⟨_, rfl, own2, hb⟩
theorem rtext_n {A : Option Addr} {c : Nat} {l : List UInt8} {w : World} (n : Nat) (hn : l.length = n) (h : Rd w A (l.map byt)) (hl : n ≤ 65536) :
    Calls Try.prog 32 #[.slice A n c] w fun e w' => ∃ v, e = .returned v ∧ w'.ownsRow w.heap.size 5 1 v (4 + n) ((tx l).map byt) ∧ Below w.heap.size w w' := by
  subst hn
  have := rtext_any (c := c) h hl
  rwa [tx_length] at this
set_option maxRecDepth 100000 in
set_option maxHeartbeats 6400000 in
theorem refvalue_any (x : En) {w : World} (h : Rd w x.A (x.op.map byt)) (hl : x.op.length ≤ 65536) :
    Calls Try.prog 33 #[.agg #[.int .i64 x.c, .int .i64 x.r, .slice x.A x.op.length x.cap]] w fun e w' => ∃ v, e = .returned v ∧ w'.ownsRow w.heap.size 5 1 v (putV x.data).length ((putV x.data).map byt) ∧ Below w.heap.size w w' := by
  have b0 := below_alloc w (.cells #[.int .i64 x.c, .int .i64 x.r, .slice x.A x.op.length x.cap] 29)
  have V := Var3.new w (.int .i64 x.c) (.int .i64 x.r) (.slice x.A x.op.length x.cap) 29
  have hlen : (putV x.data).length = 8 + 8 + (4 + x.op.length) := by rw [putV_len]; simp only [En.data]; omega
  have hmap : (putV x.data).map byt = ((be 8 x.c).map byt ++ (be 8 x.r).map byt) ++ (tx x.op).map byt := by simp [putV, En.data]
  rw [hlen, hmap]
  clear hlen hmap
  go_enter Try.func33, Try.ntmps33
  go_upto_region 1 with fail
  generalize hva : w.alloc _ = va at b0 V ⊢
  have n1 : va.heap.size = w.heap.size + 1 := by rw [← hva]; simp
  clear hva
  replace n1 := hid n1
  obtain ⟨C0, C1, C2, F0, F1, F2, VL⟩ := V
  have K0 := fun W (hW : Below va.heap.size va W) => cell_on hW C0
  have K1 := fun W (hW : Below va.heap.size va W) => cell_on hW C1
  have K2 := fun W (hW : Below va.heap.size va W) => cell_on hW C2
  clear C0 C1 C2 F0 F1 F2 VL
  have ha := h.below b0
  have bcur := (Below.refl va.heap.size va).drew
  refine wp_region_noPanic ?_
  refine wp_region_held_drew (S := (fun W => Below va.heap.size va W)) (by kernel_rfl) ?_ (fun hHeld => ?_)
  · exact (Below.refl _ _).drew
  refine wpAnyH_take (i := 0) (oi := ?oi1) (v := ?v1) ?hi1 (by kernel_rfl) (by kernel_rfl) (by kernel_rfl) ?hQ1 ?hy1 (by assumption) ?hrest1
  case hi1 => (simp only [List.getElem?_toArray, List.getElem?_cons_zero]; try rfl)
  case hQ1 => exact fun _ _ _ h => h
  case hy1 =>
    refine Or.inl ⟨by rfl, ?_⟩
    (intro wq hSw; (try dsimp only at hSw); go_simp; try with_reducible rfl)
  (try simp only [Act.put, List.setIfInBounds_toArray, List.set_cons_zero, List.set_cons_succ])
  refine wpAnyH_take (i := 1) (oi := ?oi2) (v := ?v2) ?hi2 (by kernel_rfl) (by kernel_rfl) (by kernel_rfl) ?hQ2 ?hy2 (by assumption) ?hrest2
  case hi2 => (simp only [List.getElem?_toArray, List.getElem?_cons_succ, List.getElem?_cons_zero]; try rfl)
  case hQ2 => exact fun _ _ _ h => h
  case hy2 =>
    refine Or.inl ⟨by rfl, ?_⟩
    (intro wq hSw; (try dsimp only at hSw); go_simp; try with_reducible rfl)
  (try simp only [Act.put, List.setIfInBounds_toArray, List.set_cons_zero, List.set_cons_succ])
  refine wpAnyH_take (i := 3) (oi := ?oi3) (v := ?v3) ?hi3 (by kernel_rfl) (by kernel_rfl) (by kernel_rfl) ?hQ3 ?hy3 (by assumption) ?hrest3
  case hi3 => (simp only [List.getElem?_toArray, List.getElem?_cons_succ, List.getElem?_cons_zero]; try rfl)
  case hQ3 => exact fun _ _ _ h => h
  case hy3 =>
    refine Or.inl ⟨by rfl, ?_⟩
    (intro wq hSw; (try dsimp only at hSw); go_simp; try with_reducible rfl)
  (try simp only [Act.put, List.setIfInBounds_toArray, List.set_cons_zero, List.set_cons_succ])
  refine wpAnyH_take (i := 4) (oi := ?oi4) (v := ?v4) ?hi4 (by kernel_rfl) (by kernel_rfl) (by kernel_rfl) ?hQ4 ?hy4 (by assumption) ?hrest4
  case hi4 => (simp only [List.getElem?_toArray, List.getElem?_cons_succ, List.getElem?_cons_zero]; try rfl)
  case hQ4 => exact fun _ _ _ h => h
  case hy4 =>
    refine Or.inl ⟨by rfl, ?_⟩
    (intro wq hSw; (try dsimp only at hSw); go_simp; try with_reducible rfl)
  (try simp only [Act.put, List.setIfInBounds_toArray, List.set_cons_zero, List.set_cons_succ])
  refine wpAnyH_take (i := 7) (oi := ?oi5) (v := ?v5) ?hi5 (by kernel_rfl) (by kernel_rfl) (by kernel_rfl) ?hQ5 ?hy5 (by assumption) ?hrest5
  case hi5 => (simp only [List.getElem?_toArray, List.getElem?_cons_succ, List.getElem?_cons_zero]; try rfl)
  case hQ5 => exact fun _ _ _ h => h
  case hy5 =>
    refine Or.inl ⟨by rfl, ?_⟩
    (intro wq hSw; (try dsimp only at hSw); go_simp; try with_reducible rfl)
  (try simp only [Act.put, List.setIfInBounds_toArray, List.set_cons_zero, List.set_cons_succ])
  refine wpAnyH_take (i := 8) (oi := ?oi6) (v := ?v6) ?hi6 (by kernel_rfl) (by kernel_rfl) (by kernel_rfl) ?hQ6 ?hy6 (by assumption) ?hrest6
  case hi6 => (simp only [List.getElem?_toArray, List.getElem?_cons_succ, List.getElem?_cons_zero]; try rfl)
  case hQ6 => exact fun _ _ _ h => h
  case hy6 =>
    refine Or.inl ⟨by rfl, ?_⟩
    (intro wq hSw; (try dsimp only at hSw); go_simp; try with_reducible rfl)
  (try simp only [Act.put, List.setIfInBounds_toArray, List.set_cons_zero, List.set_cons_succ])
  refine wpAnyH_ready (rs := [2]) (by kernel_rfl) (by simp) ?_
  refine AllReadyH.cons (o := ?oi7) ?hi7 (fun K hK => ?hstep7) AllReadyH.nil
  case hi7 => (simp only [List.getElem?_toArray, List.getElem?_cons_succ, List.getElem?_cons_zero]; try rfl)
  go_simp
  (refine (rputnum_any x.c _).mono ?_; rintro e w2 ⟨v2, rfl, own2, hbx⟩; have bcur := below_step bcur hbx)
  refine hK.out _ _ ?_ (fun hHeld => ?_)
  · exact below_step hHeld hbx
  clear hK K
  (try simp only [Act.put, List.setIfInBounds_toArray, List.set_cons_zero, List.set_cons_succ])
  refine wpAnyH_ready (rs := [5]) (by kernel_rfl) (by simp) ?_
  refine AllReadyH.cons (o := ?oi8) ?hi8 (fun K hK => ?hstep8) AllReadyH.nil
  case hi8 => (simp only [List.getElem?_toArray, List.getElem?_cons_succ, List.getElem?_cons_zero]; try rfl)
  go_simp
  (refine (rputnum_any x.r _).mono ?_; rintro e w5 ⟨v5, rfl, own5, hbx⟩; have own2b := own_below own2 hbx; have bcur := below_step bcur hbx; have z5 := bcur.size)
  refine hK.out _ _ ?_ (fun hHeld => ?_)
  · exact below_step hHeld hbx
  clear hK K
  (try simp only [Act.put, List.setIfInBounds_toArray, List.set_cons_zero, List.set_cons_succ])
  refine wpAnyH_ready (rs := [6]) (by kernel_rfl) (by simp) ?_
  refine AllReadyH.cons (o := ?oi9) ?hi9 (fun K hK => ?hstep9) AllReadyH.nil
  case hi9 => (simp only [List.getElem?_toArray, List.getElem?_cons_succ, List.getElem?_cons_zero]; try rfl)
  (obtain ⟨A5, c5, rfl, _⟩ := own_shape own5; refine oper_app2 rfl (.tmp 5) (.tmp 8) 22 rfl va.drew.heap.size 5 Try.underlying22 infoB rfl (by decide) v2 8 ((be 8 x.c).map byt) rfl own2b A5 8 c5 ((be 8 x.r).map byt) rfl (by rw [List.length_map, be_length]) (own_rd own5) (byt_one _) (by omega) (by omega) z5 ?_; intro v6 w6 own6 hg6 hat6; have bcur := bcur.grown hg6 z5 (fun k hk => (own_lt own2b hk).1))
  refine hK.out _ _ ?_ (fun hHeld => ?_)
  · exact bcur
  clear hK K
  (try simp only [Act.put, List.setIfInBounds_toArray, List.set_cons_zero, List.set_cons_succ])
  refine wpAnyH_ready (rs := [9]) (by kernel_rfl) (by simp) ?_
  refine AllReadyH.cons (o := ?oi10) ?hi10 (fun K hK => ?hstep10) AllReadyH.nil
  case hi10 => (simp only [List.getElem?_toArray, List.getElem?_cons_succ, List.getElem?_cons_zero]; try rfl)
  go_simp
  (refine (rtext_n x.op.length rfl (ha.below bcur) hl).mono ?_; rintro e w9 ⟨v9, rfl, own9, hbx⟩; have own6b := own_below own6 hbx; have bcur := below_step bcur hbx; have z9 := bcur.size)
  refine hK.out _ _ ?_ (fun hHeld => ?_)
  · exact below_step hHeld hbx
  clear hK K
  (try simp only [Act.put, List.setIfInBounds_toArray, List.set_cons_zero, List.set_cons_succ])
  refine wpAnyH_ready (rs := [10]) (by kernel_rfl) (by simp) ?_
  refine AllReadyH.cons (o := ?oi11) ?hi11 (fun K hK => ?hstep11) AllReadyH.nil
  case hi11 => (simp only [List.getElem?_toArray, List.getElem?_cons_succ, List.getElem?_cons_zero]; try rfl)
  (obtain ⟨A9, c9, rfl, _⟩ := own_shape own9; refine oper_app2 rfl (.tmp 9) (.tmp 12) 22 rfl va.drew.heap.size 5 Try.underlying22 infoB rfl (by decide) v6 (8 + 8) _ rfl own6b A9 (4 + x.op.length) c9 ((tx x.op).map byt) rfl (by rw [List.length_map, tx_length]; omega) (own_rd own9) (byt_one _) (by omega) (by omega) z9 ?_; intro v10 w10 own10 hg10 hat10; have bcur := bcur.grown hg10 z9 (fun k hk => (own_lt own6b hk).1))
  refine hK.out _ _ ?_ (fun hHeld => ?_)
  · exact bcur
  clear hK K
  (try simp only [Act.put, List.setIfInBounds_toArray, List.set_cons_zero, List.set_cons_succ])
  refine wpAnyH_take (i := 11) (oi := ?oi12) (v := ?v12) ?hi12 (by kernel_rfl) (by kernel_rfl) (by kernel_rfl) ?hQ12 ?hy12 (by assumption) ?hrest12
  case hi12 => (simp only [List.getElem?_toArray, List.getElem?_cons_succ, List.getElem?_cons_zero]; try rfl)
  case hQ12 => exact fun _ _ _ h => h
  case hy12 =>
    refine Or.inl ⟨by rfl, ?_⟩
    (intro wq hSw; (try dsimp only at hSw); go_simp; try with_reducible rfl)
  (try simp only [Act.put, List.setIfInBounds_toArray, List.set_cons_zero, List.set_cons_succ])
  refine wpAnyH_done (by kernel_rfl) ?_ _
  refine NoPanic.normal ?_
  ((go_wp2_with fail); go_ret; exact ⟨_, rfl, own_mono own10 (by show w.heap.size ≤ va.heap.size; have := n1.out; omega), below_step b0 hHeld⟩)
end Go.Proofs.Ytoceipdkmafagaa
