import Derived.Test.YtlekoeddcjjjdaaJourR
/-! the ref's journal: what it is, what it tells -/
namespace Go.Proofs.Ytlekoeddcjjjdaa
open Go.RowKit Go.Cov Go.Lib
variable {Bk : Nat → Prop}
set_option maxRecDepth 100000 in
set_option maxHeartbeats 1600000 in
theorem rjpairs_any {w : World} {base db : Nat} {hist : List PL} {L : PL} (h : RJ Bk w base db (hist ++ [L])) (hn : hist.length ≤ 100000) :
    Calls Try.prog 24 #[.pointer (some ⟨db, 0, none⟩)] w fun e w' => ∃ dv A c xs, e = .returned (.slice A (xs : List Pr).length c) ∧ w.cell? ⟨db, 0, none⟩ = some dv ∧ GSt Bk w db dv A c xs L ∧ Below w.heap.size w w' := by
  obtain ⟨dv, ss, ⟨c0, f0⟩, _, h6, h7⟩ := h
  obtain ⟨⟨SA, sc, sx⟩, hs, hg⟩ := h7 hist.length L (by simp)
  obtain ⟨U, q, rfl, hq1, hq2, _⟩ := own_shape h6
  obtain ⟨ad, rfl, hc⟩ := own_rd h6 hist.length (.slice SA sx.length sc) (by rw [List.getElem?_map, hs]; rfl)
  rw [List.length_append, List.length_singleton] at c0 hq1 hg
  have e1 : IntKind.i64.wrap (((hist.length + 1 : Nat) : Int) - 1) = (hist.length : Nat) := by rw [wrap_of _ (by omega) (by omega)]; omega
  have G := hid hg
  have i0 : (0 : Int) ≤ (hist.length : Nat) := by omega
  have i1 : ((hist.length : Nat) : Int) < ((hist.length + 1 : Nat) : Int) := by omega
  have C0 := hid c0
  have c0q := fun W (hW : Below w.heap.size w W) => cell_on hW c0
  have hcq := fun W (hW : Below w.heap.size w W) => cell_on hW hc
  clear h6 h7 hs hg f0 hc c0
  obtain ⟨n, hnn⟩ : ∃ n, n = hist.length := ⟨_, rfl⟩
  obtain ⟨n1, hnn1⟩ : ∃ n, n = hist.length + 1 := ⟨_, rfl⟩
  rw [← hnn1] at C0 c0q e1 i1 G
  rw [← hnn] at e1 i0 i1 hcq
  replace hnn := hid hnn
  replace hnn1 := hid hnn1
  clear hq1
  go_enter Try.func24, Try.ntmps24
  go_upto_region 1 with fail
  refine wp_region_noPanic ?_
  refine wp_region_held_drew (S := (fun W => Below w.heap.size w W)) (by kernel_rfl) ?_ (fun hHeld => ?_)
  · exact (Below.refl _ _).drew
  refine wpAnyH_take (i := 0) (oi := ?oi1) (v := ?v1) ?hi1 (by kernel_rfl) (by kernel_rfl) (by kernel_rfl) ?hQ1 ?hy1 (by assumption) ?hrest1
  case hi1 => (simp only [List.getElem?_toArray, List.getElem?_cons_zero]; try rfl)
  case hQ1 => exact fun _ _ _ h => h
  case hy1 =>
    refine Or.inl ⟨by rfl, ?_⟩
    (intro wq hSw; (try dsimp only at hSw); go_simp; try with_reducible rfl)
  (try simp only [Act.put, List.setIfInBounds_toArray, List.set_cons_zero, List.set_cons_succ])
  refine wpAnyH_take (i := 1) (oi := ?oi2) (v := ?v2) ?hi2 (by kernel_rfl) (by kernel_rfl) (by kernel_rfl) ?hQ2 ?hy2 (by assumption) ?hrest2
  case hi2 => (simp only [List.getElem?_toArray, List.getElem?_cons_succ, List.getElem?_cons_zero]; try rfl)
  case hQ2 => exact fun _ _ _ h => h
  case hy2 =>
    refine Or.inl ⟨by rfl, ?_⟩
    (intro wq hSw; (try dsimp only at hSw); go_simp; try with_reducible rfl)
  (try simp only [Act.put, List.setIfInBounds_toArray, List.set_cons_zero, List.set_cons_succ])
  refine wpAnyH_take (i := 2) (oi := ?oi3) (v := ?v3) ?hi3 (by kernel_rfl) (by kernel_rfl) (by kernel_rfl) ?hQ3 ?hy3 (by assumption) ?hrest3
  case hi3 => (simp only [List.getElem?_toArray, List.getElem?_cons_succ, List.getElem?_cons_zero]; try rfl)
  case hQ3 => exact fun _ _ _ h => h
  case hy3 =>
    refine Or.inl ⟨by rfl, ?_⟩
    (intro wq hSw; (try dsimp only at hSw); go_simp; try with_reducible rfl)
  (try simp only [Act.put, List.setIfInBounds_toArray, List.set_cons_zero, List.set_cons_succ])
  refine wpAnyH_take (i := 3) (oi := ?oi4) (v := ?v4) ?hi4 (by kernel_rfl) (by kernel_rfl) (by kernel_rfl) ?hQ4 ?hy4 (by assumption) ?hrest4
  case hi4 => (simp only [List.getElem?_toArray, List.getElem?_cons_succ, List.getElem?_cons_zero]; try rfl)
  case hQ4 => exact fun _ _ _ h => h
  case hy4 =>
    refine Or.inl ⟨by rfl, ?_⟩
    (intro wq hSw; (try dsimp only at hSw); go_simp; try with_reducible rfl)
  (try simp only [Act.put, List.setIfInBounds_toArray, List.set_cons_zero, List.set_cons_succ])
  refine wpAnyH_take (i := 4) (oi := ?oi5) (v := ?v5) ?hi5 (by kernel_rfl) (by kernel_rfl) (by kernel_rfl) ?hQ5 ?hy5 (by assumption) ?hrest5
  case hi5 => (simp only [List.getElem?_toArray, List.getElem?_cons_succ, List.getElem?_cons_zero]; try rfl)
  case hQ5 => exact fun _ _ _ h => h
  case hy5 =>
    refine Or.inl ⟨by rfl, ?_⟩
    (intro wq hSw; (try dsimp only at hSw); go_simp; try with_reducible rfl)
  (try simp only [Act.put, List.setIfInBounds_toArray, List.set_cons_zero, List.set_cons_succ])
  refine wpAnyH_take (i := 5) (oi := ?oi6) (v := ?v6) ?hi6 (by kernel_rfl) (by kernel_rfl) (by kernel_rfl) ?hQ6 ?hy6 (by assumption) ?hrest6
  case hi6 => (simp only [List.getElem?_toArray, List.getElem?_cons_succ, List.getElem?_cons_zero]; try rfl)
  case hQ6 => exact fun _ _ _ h => h
  case hy6 =>
    refine Or.inl ⟨by rfl, ?_⟩
    (intro wq hSw; (try dsimp only at hSw); go_simp; try with_reducible rfl)
  (try simp only [Act.put, List.setIfInBounds_toArray, List.set_cons_zero, List.set_cons_succ])
  refine wpAnyH_take (i := 6) (oi := ?oi7) (v := ?v7) ?hi7 (by kernel_rfl) (by kernel_rfl) (by kernel_rfl) ?hQ7 ?hy7 (by assumption) ?hrest7
  case hi7 => (simp only [List.getElem?_toArray, List.getElem?_cons_succ, List.getElem?_cons_zero]; try rfl)
  case hQ7 => exact fun _ _ _ h => h
  case hy7 =>
    refine Or.inl ⟨by rfl, ?_⟩
    (intro wq hSw; (try dsimp only at hSw); go_simp; try with_reducible rfl)
  (try simp only [Act.put, List.setIfInBounds_toArray, List.set_cons_zero, List.set_cons_succ])
  refine wpAnyH_take (i := 7) (oi := ?oi8) (v := ?v8) ?hi8 (by kernel_rfl) (by kernel_rfl) (by kernel_rfl) ?hQ8 ?hy8 (by assumption) ?hrest8
  case hi8 => (simp only [List.getElem?_toArray, List.getElem?_cons_succ, List.getElem?_cons_zero]; try rfl)
  case hQ8 => exact fun _ _ _ h => h
  case hy8 =>
    refine Or.inl ⟨by rfl, ?_⟩
    (intro wq hSw; (try dsimp only at hSw); go_simp; try with_reducible rfl)
  (try simp only [Act.put, List.setIfInBounds_toArray, List.set_cons_zero, List.set_cons_succ])
  refine wpAnyH_take (i := 8) (oi := ?oi9) (v := ?v9) ?hi9 (by kernel_rfl) (by kernel_rfl) (by kernel_rfl) ?hQ9 ?hy9 (by assumption) ?hrest9
  case hi9 => (simp only [List.getElem?_toArray, List.getElem?_cons_succ, List.getElem?_cons_zero]; try rfl)
  case hQ9 => exact fun _ _ _ h => h
  case hy9 =>
    refine Or.inl ⟨by rfl, ?_⟩
    (intro wq hSw; (try dsimp only at hSw); go_simp; try with_reducible rfl)
  (try simp only [Act.put, List.setIfInBounds_toArray, List.set_cons_zero, List.set_cons_succ])
  refine wpAnyH_take (i := 9) (oi := ?oi10) (v := ?v10) ?hi10 (by kernel_rfl) (by kernel_rfl) (by kernel_rfl) ?hQ10 ?hy10 (by assumption) ?hrest10
  case hi10 => (simp only [List.getElem?_toArray, List.getElem?_cons_succ, List.getElem?_cons_zero]; try rfl)
  case hQ10 => exact fun _ _ _ h => h
  case hy10 =>
    refine Or.inl ⟨by rfl, ?_⟩
    (intro wq hSw; (try dsimp only at hSw); go_simp; try with_reducible rfl)
  (try simp only [Act.put, List.setIfInBounds_toArray, List.set_cons_zero, List.set_cons_succ])
  refine wpAnyH_take (i := 10) (oi := ?oi11) (v := ?v11) ?hi11 (by kernel_rfl) (by kernel_rfl) (by kernel_rfl) ?hQ11 ?hy11 (by assumption) ?hrest11
  case hi11 => (simp only [List.getElem?_toArray, List.getElem?_cons_succ, List.getElem?_cons_zero]; try rfl)
  case hQ11 => exact fun _ _ _ h => h
  case hy11 =>
    refine Or.inl ⟨by rfl, ?_⟩
    (intro wq hSw; (try dsimp only at hSw); go_simp; try with_reducible rfl)
  (try simp only [Act.put, List.setIfInBounds_toArray, List.set_cons_zero, List.set_cons_succ])
  refine wpAnyH_take (i := 11) (oi := ?oi12) (v := ?v12) ?hi12 (by kernel_rfl) (by kernel_rfl) (by kernel_rfl) ?hQ12 ?hy12 (by assumption) ?hrest12
  case hi12 => (simp only [List.getElem?_toArray, List.getElem?_cons_succ, List.getElem?_cons_zero]; try rfl)
  case hQ12 => exact fun _ _ _ h => h
  case hy12 =>
    refine Or.inl ⟨by rfl, ?_⟩
    (intro wq hSw; (try dsimp only at hSw); go_simp; try with_reducible rfl)
  (try simp only [Act.put, List.setIfInBounds_toArray, List.set_cons_zero, List.set_cons_succ])
  refine wpAnyH_take (i := 12) (oi := ?oi13) (v := ?v13) ?hi13 (by kernel_rfl) (by kernel_rfl) (by kernel_rfl) ?hQ13 ?hy13 (by assumption) ?hrest13
  case hi13 => (simp only [List.getElem?_toArray, List.getElem?_cons_succ, List.getElem?_cons_zero]; try rfl)
  case hQ13 => exact fun _ _ _ h => h
  case hy13 =>
    refine Or.inl ⟨by rfl, ?_⟩
    (intro wq hSw; (try dsimp only at hSw); go_simp; try with_reducible rfl)
  (try simp only [Act.put, List.setIfInBounds_toArray, List.set_cons_zero, List.set_cons_succ])
  refine wpAnyH_done (by kernel_rfl) ?_ _
  refine NoPanic.normal ?_
  go_wp2_with fail
  go_ret
  exact ⟨_, SA, sc, sx, rfl, C0.out, G.out, (Below.refl _ _).drew⟩
end Go.Proofs.Ytlekoeddcjjjdaa
