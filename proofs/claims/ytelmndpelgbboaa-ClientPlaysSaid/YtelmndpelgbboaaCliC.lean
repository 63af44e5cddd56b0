import Derived.Test.YtelmndpelgbboaaCliB
namespace Go.Proofs.Ytelmndpelgbboaa
open Go.RowKit Go.Conc Go.Cov
theorem few_any {f : Int} (h0 : 0 ≤ f) (h1 : f ≤ 3) (w : World) : Calls Try.prog 32 #[.int .i64 f] w fun e w' => e = .returned (.int .i64 f) ∧ w' = w := by
  have e1 : (if f < 0 then (0 : Int) else f) = f := by rw [if_neg (by omega)]
  have e2 : (if 3 < f then (3 : Int) else f) = f := by rw [if_neg (by omega)]
  have e3 : (if 0 < f then f else (0 : Int)) = f := by split <;> omega
  have e4 : (if f < 3 then f else (3 : Int)) = f := by split <;> omega
  go_enter Try.func32, Try.ntmps32
  go_wp2_with fail
  go_ret
  exact ⟨rfl, rfl⟩
theorem primary_any {f v : Int} (h0 : 0 ≤ f) (h1 : f ≤ 3) (hv : 0 ≤ v) (w : World) : Calls Try.prog 27 #[.int .i64 f, .int .i64 v] w fun e w' => e = .returned (.int .i64 (v % (2 * f + 1))) ∧ w' = w := by
  have e1 : (if 0 < v then v else (0 : Int)) = v := by split <;> omega
  have e2 : (if v < 0 then (0 : Int) else v) = v := by rw [if_neg (by omega)]
  have e4 : IntKind.i64.wrap (2 * f) = 2 * f := wrap_of _ (by omega) (by omega)
  have e5 : IntKind.i64.wrap (2 * f + 1) = 2 * f + 1 := wrap_of _ (by omega) (by omega)
  have e6 : ¬ (2 * f + 1 = 0) := by omega
  have e7 : v.tmod (2 * f + 1) = v % (2 * f + 1) := Int.tmod_eq_emod_of_nonneg hv
  go_enter Try.func27, Try.ntmps27
  go_wp2_with fail
  all_goals
    refine (few_any h0 h1 w).mono ?_
    rintro e w1 ⟨rfl, rfl⟩
    go_wp2_with fail
    go_ret
    exact ⟨by first | rfl | (rw [e7]; rfl), rfl⟩
/-- the box turned -/
theorem takec_cl {w w1 : World} {base cb : Nat} {s : Cs} (h : Cl w base cb s) {x : An} {l : List An} (hx : s.ans = x :: l) (hb : BoxA w1 s.xb s.xc s.room.toNat l) (hg : w.grownBy w1 (some s.xc)) : Cl w1 base cb { s with ans := l } := by
  have hG : Gro cb s.xc w w1 := Gro.of_grown hg
  refine ⟨h.row.keep (hg.block cb h.row.1 (fun e => h.ne.2 (Option.some.inj e))) hg.size, hb, h.lo, h.ne, ⟨hG.rd h.body.1 h.body.2, h.body.2⟩, fun a ha => ?_⟩
  have := h.ans a (by rw [hx]; exact List.mem_cons_of_mem _ ha)
  exact ⟨hG.rd this.1 this.2, this.2⟩
set_option maxHeartbeats 800000 in
theorem takec_some {w : World} {base cb : Nat} {s : Cs} (h : Cl w base cb s) {x : An} {l : List An} (hx : s.ans = x :: l) :
    Calls Try.prog 19 #[.pointer (some ⟨cb, 0, none⟩)] w fun e w' => e = .returned (.tuple #[.int .i64 x.n, .slice x.V x.l.length x.c, .bool true]) ∧ Cl w' base cb { s with ans := l } ∧ Gro cb s.xc w w' := by
  have c9 := (h.row.2 9 _ rfl).1
  have hb := h.box
  rw [hx] at hb
  go_enter Try.func19, Try.ntmps19
  go_wp2_with fail
  refine (take_yes hb).mono ?_
  rintro e w1 ⟨rfl, hb1, hg1⟩
  unfold An.agg
  go_wp2_with fail
  have V0 := box_cell w1 #[.int .i64 x.n, .slice x.V x.l.length x.c] 59 0 _ rfl
  have V1 := box_cell w1 #[.int .i64 x.n, .slice x.V x.l.length x.c] 59 1 _ rfl
  have ba := below_alloc w1 (.cells #[.int .i64 x.n, .slice x.V x.l.length x.c] 59)
  have hn : w1.heap.size < (w1.alloc (.cells #[.int .i64 x.n, .slice x.V x.l.length x.c] 59)).heap.size := by simp
  generalize w1.alloc (.cells #[.int .i64 x.n, .slice x.V x.l.length x.c] 59) = va at V0 V1 ba hn ⊢
  have k0 := fun W (hW : Below va.heap.size va W) => cell_on hW V0
  have k1 := fun W (hW : Below va.heap.size va W) => cell_on hW V1
  have hG := (Gro.of_grown (b := cb) hg1).trans (Gro.of_below ba)
  have hC : Cl va base cb { s with ans := l } := (takec_cl h hx hb1 hg1).gro ba
  refine wp_region_noPanic ?_
  refine wp_region_held_drew (S := (fun W => Below va.heap.size va W)) (by kernel_rfl) ?_ (fun hHeld => ?_)
  · exact (Below.refl _ _).drew
  refine wpAnyH_take (i := 0) (oi := ?oi1) (v := ?v1) ?hi1 (by kernel_rfl) (by kernel_rfl) (by kernel_rfl) ?hQ1 ?hy1 (by assumption) ?hrest1
  case hi1 => (simp only [List.getElem?_toArray, List.getElem?_cons_zero]; try rfl)
  case hQ1 => exact fun _ _ _ h => h
  case hy1 =>
    refine Or.inl ⟨by rfl, ?_⟩
    (intro wq hSw; (try dsimp only at hSw); go_simp; try with_reducible rfl)
  (try simp only [Act.put, List.setIfInBounds_toArray, List.set_cons_zero, List.set_cons_succ])
  refine wpAnyH_take (i := 1) (oi := ?oi2) (v := ?v2) ?hi2 (by kernel_rfl) (by kernel_rfl) (by kernel_rfl) ?hQ2 ?hy2 (by assumption) ?hrest2
  case hi2 => (simp only [List.getElem?_toArray, List.getElem?_cons_succ, List.getElem?_cons_zero]; try rfl)
  case hQ2 => exact fun _ _ _ h => h
  case hy2 =>
    refine Or.inl ⟨by rfl, ?_⟩
    (intro wq hSw; (try dsimp only at hSw); go_simp; try with_reducible rfl)
  (try simp only [Act.put, List.setIfInBounds_toArray, List.set_cons_zero, List.set_cons_succ])
  refine wpAnyH_take (i := 2) (oi := ?oi3) (v := ?v3) ?hi3 (by kernel_rfl) (by kernel_rfl) (by kernel_rfl) ?hQ3 ?hy3 (by assumption) ?hrest3
  case hi3 => (simp only [List.getElem?_toArray, List.getElem?_cons_succ, List.getElem?_cons_zero]; try rfl)
  case hQ3 => exact fun _ _ _ h => h
  case hy3 =>
    refine Or.inl ⟨by rfl, ?_⟩
    (intro wq hSw; (try dsimp only at hSw); go_simp; try with_reducible rfl)
  (try simp only [Act.put, List.setIfInBounds_toArray, List.set_cons_zero, List.set_cons_succ])
  refine wpAnyH_take (i := 3) (oi := ?oi4) (v := ?v4) ?hi4 (by kernel_rfl) (by kernel_rfl) (by kernel_rfl) ?hQ4 ?hy4 (by assumption) ?hrest4
  case hi4 => (simp only [List.getElem?_toArray, List.getElem?_cons_succ, List.getElem?_cons_zero]; try rfl)
  case hQ4 => exact fun _ _ _ h => h
  case hy4 =>
    refine Or.inl ⟨by rfl, ?_⟩
    (intro wq hSw; (try dsimp only at hSw); go_simp; try with_reducible rfl)
  (try simp only [Act.put, List.setIfInBounds_toArray, List.set_cons_zero, List.set_cons_succ])
  refine wpAnyH_take (i := 4) (oi := ?oi5) (v := ?v5) ?hi5 (by kernel_rfl) (by kernel_rfl) (by kernel_rfl) ?hQ5 ?hy5 (by assumption) ?hrest5
  case hi5 => (simp only [List.getElem?_toArray, List.getElem?_cons_succ, List.getElem?_cons_zero]; try rfl)
  case hQ5 => exact fun _ _ _ h => h
  case hy5 =>
    refine Or.inl ⟨by rfl, ?_⟩
    (intro wq hSw; (try dsimp only at hSw); go_simp; try with_reducible rfl)
  (try simp only [Act.put, List.setIfInBounds_toArray, List.set_cons_zero, List.set_cons_succ])
  refine wpAnyH_take (i := 5) (oi := ?oi6) (v := ?v6) ?hi6 (by kernel_rfl) (by kernel_rfl) (by kernel_rfl) ?hQ6 ?hy6 (by assumption) ?hrest6
  case hi6 => (simp only [List.getElem?_toArray, List.getElem?_cons_succ, List.getElem?_cons_zero]; try rfl)
  case hQ6 => exact fun _ _ _ h => h
  case hy6 =>
    refine Or.inl ⟨by rfl, ?_⟩
    (intro wq hSw; (try dsimp only at hSw); go_simp; try with_reducible rfl)
  (try simp only [Act.put, List.setIfInBounds_toArray, List.set_cons_zero, List.set_cons_succ])
  refine wpAnyH_take (i := 6) (oi := ?oi7) (v := ?v7) ?hi7 (by kernel_rfl) (by kernel_rfl) (by kernel_rfl) ?hQ7 ?hy7 (by assumption) ?hrest7
  case hi7 => (simp only [List.getElem?_toArray, List.getElem?_cons_succ, List.getElem?_cons_zero]; try rfl)
  case hQ7 => exact fun _ _ _ h => h
  case hy7 =>
    refine Or.inl ⟨by rfl, ?_⟩
    (intro wq hSw; (try dsimp only at hSw); go_simp; try with_reducible rfl)
  (try simp only [Act.put, List.setIfInBounds_toArray, List.set_cons_zero, List.set_cons_succ])
  refine wpAnyH_take (i := 7) (oi := ?oi8) (v := ?v8) ?hi8 (by kernel_rfl) (by kernel_rfl) (by kernel_rfl) ?hQ8 ?hy8 (by assumption) ?hrest8
  case hi8 => (simp only [List.getElem?_toArray, List.getElem?_cons_succ, List.getElem?_cons_zero]; try rfl)
  case hQ8 => exact fun _ _ _ h => h
  case hy8 =>
    refine Or.inl ⟨by rfl, ?_⟩
    (intro wq hSw; (try dsimp only at hSw); go_simp; try with_reducible rfl)
  (try simp only [Act.put, List.setIfInBounds_toArray, List.set_cons_zero, List.set_cons_succ])
  refine wpAnyH_done (by kernel_rfl) ?_ _
  refine NoPanic.normal ?_
  go_wp2_with fail
  go_ret3
  exact ⟨rfl, hC.gro hHeld, hG.trans (Gro.of_below hHeld)⟩
end Go.Proofs.Ytelmndpelgbboaa
