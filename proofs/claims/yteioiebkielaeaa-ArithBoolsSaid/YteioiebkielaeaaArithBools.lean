import Derived.Test.YteioiebkielaeaaArithL
namespace Go.Proofs.Yteioiebkielaeaa
open Go.RowKit Go.Cov Go.Lib
set_option maxRecDepth 100000 in
set_option maxHeartbeats 6400000 in
theorem bools_main (a b : Bool) (n p p' q q' r s u v k m e0 : Int) (w : World)
    (KA : Hid (∀ w, Calls Try.prog 17 #[.bool a] w fun e w' => e = .returned (.agg #[.int .i64 2, .int .i64 p, .slice none 0 0]) ∧ Below w.heap.size w w'))
    (KB : Hid (∀ w, Calls Try.prog 17 #[.bool b] w fun e w' => e = .returned (.agg #[.int .i64 2, .int .i64 q, .slice none 0 0]) ∧ Below w.heap.size w w'))
    (N1 : Hid (∀ w, Calls Try.prog 14 #[.string ⟨#[33]⟩, .agg #[.int .i64 2, .int .i64 p, .slice none 0 0]] w fun e w' => e = .returned (.agg #[.int .i64 2, .int .i64 p', .slice none 0 0]) ∧ Below w.heap.size w w'))
    (N2 : Hid (∀ w, Calls Try.prog 14 #[.string ⟨#[33]⟩, .agg #[.int .i64 2, .int .i64 p', .slice none 0 0]] w fun e w' => e = .returned (.agg #[.int .i64 2, .int .i64 p, .slice none 0 0]) ∧ Below w.heap.size w w'))
    (AN : Hid (∀ w, Calls Try.prog 16 #[.string ⟨#[38, 38]⟩, .agg #[.int .i64 2, .int .i64 p, .slice none 0 0], .agg #[.int .i64 2, .int .i64 q, .slice none 0 0]] w fun e w' => e = .returned (.agg #[.int .i64 2, .int .i64 r, .slice none 0 0]) ∧ Below w.heap.size w w'))
    (NR : Hid (∀ w, Calls Try.prog 14 #[.string ⟨#[33]⟩, .agg #[.int .i64 2, .int .i64 r, .slice none 0 0]] w fun e w' => e = .returned (.agg #[.int .i64 2, .int .i64 s, .slice none 0 0]) ∧ Below w.heap.size w w'))
    (NQ : Hid (∀ w, Calls Try.prog 14 #[.string ⟨#[33]⟩, .agg #[.int .i64 2, .int .i64 q, .slice none 0 0]] w fun e w' => e = .returned (.agg #[.int .i64 2, .int .i64 q', .slice none 0 0]) ∧ Below w.heap.size w w'))
    (OR : Hid (∀ w, Calls Try.prog 16 #[.string ⟨#[124, 124]⟩, .agg #[.int .i64 2, .int .i64 p', .slice none 0 0], .agg #[.int .i64 2, .int .i64 q', .slice none 0 0]] w fun e w' => e = .returned (.agg #[.int .i64 2, .int .i64 s, .slice none 0 0]) ∧ Below w.heap.size w w'))
    (EQ : Hid (∀ w, Calls Try.prog 16 #[.string ⟨#[61, 61]⟩, .agg #[.int .i64 2, .int .i64 p, .slice none 0 0], .agg #[.int .i64 2, .int .i64 q, .slice none 0 0]] w fun e w' => e = .returned (.agg #[.int .i64 2, .int .i64 u, .slice none 0 0]) ∧ Below w.heap.size w w'))
    (NE : Hid (∀ w, Calls Try.prog 16 #[.string ⟨#[33, 61]⟩, .agg #[.int .i64 2, .int .i64 p, .slice none 0 0], .agg #[.int .i64 2, .int .i64 q, .slice none 0 0]] w fun e w' => e = .returned (.agg #[.int .i64 2, .int .i64 v, .slice none 0 0]) ∧ Below w.heap.size w w'))
    (NV : Hid (∀ w, Calls Try.prog 14 #[.string ⟨#[33]⟩, .agg #[.int .i64 2, .int .i64 v, .slice none 0 0]] w fun e w' => e = .returned (.agg #[.int .i64 2, .int .i64 u, .slice none 0 0]) ∧ Below w.heap.size w w'))
    (MI : Hid (∀ w, Calls Try.prog 15 #[.string ⟨#[45]⟩, .agg #[.int .i64 1, .int .i64 n, .slice none 0 0]] w fun e w' => e = .returned (.tuple #[.agg #[.int .i64 k, .int .i64 m, .slice none 0 0], .int .i64 e0]) ∧ Below w.heap.size w w'))
    (MM : (n = -9223372036854775808 ∧ e0 = 3) ∨ ((n == -9223372036854775808) = false ∧ k = 1 ∧ e0 = 0 ∧ Hid (∀ w, Calls Try.prog 14 #[.string ⟨#[45]⟩, .agg #[.int .i64 1, .int .i64 m, .slice none 0 0]] w fun e w' => e = .returned (.agg #[.int .i64 1, .int .i64 n, .slice none 0 0]) ∧ Below w.heap.size w w'))) :
    Calls Try.prog 7 #[.bool a, .bool b, .int .i64 n] w fun e w' => e = .returned (.bool true) ∧ Below w.heap.size w w' := by
  go_enter Try.func7, Try.ntmps7
  go_wp2_with fail
  refine (head_any _).mono ?_
  rintro e w1 ⟨rfl, hb1⟩
  have bb1 := hb1
  go_wp2_with fail
  refine (KA.out _).mono ?_
  rintro e w2 ⟨rfl, hb2⟩
  have bb2 := below_step bb1 hb2
  go_wp2_with fail
  refine (KB.out _).mono ?_
  rintro e w3 ⟨rfl, hb3⟩
  have S0 := var_on hb3 0 _ rfl
  have S1 := var_on hb3 1 _ rfl
  have S2 := var_on hb3 2 _ rfl
  have bb3 := below_step (below_step bb2 (below_alloc _ _)) hb3
  go_upto_region 6 with fail
  obtain ⟨va, hva⟩ : ∃ va, w3.alloc (.cells #[.int .i64 2, .int .i64 q, .slice none 0 0] 26) = va := ⟨_, rfl⟩
  have S0 := cell_on (below_alloc w3 (.cells #[.int .i64 2, .int .i64 q, .slice none 0 0] 26)) S0
  have S1 := cell_on (below_alloc w3 (.cells #[.int .i64 2, .int .i64 q, .slice none 0 0] 26)) S1
  have S2 := cell_on (below_alloc w3 (.cells #[.int .i64 2, .int .i64 q, .slice none 0 0] 26)) S2
  have Y0 := box_cell w3 #[.int .i64 2, .int .i64 q, .slice none 0 0] 26 0 _ rfl
  have Y1 := box_cell w3 #[.int .i64 2, .int .i64 q, .slice none 0 0] 26 1 _ rfl
  have Y2 := box_cell w3 #[.int .i64 2, .int .i64 q, .slice none 0 0] 26 2 _ rfl
  have bva := below_step bb3 (below_alloc w3 (.cells #[.int .i64 2, .int .i64 q, .slice none 0 0] 26))
  have zva : w3.heap.size < (w3.alloc (.cells #[.int .i64 2, .int .i64 q, .slice none 0 0] 26)).heap.size := by simp
  rw [hva] at S0 S1 S2 Y0 Y1 Y2 bva zva ⊢
  clear hva
  have S0q := fun W (hW : Below va.heap.size va W) => cell_on hW S0
  have S1q := fun W (hW : Below va.heap.size va W) => cell_on hW S1
  have S2q := fun W (hW : Below va.heap.size va W) => cell_on hW S2
  have Y0q := fun W (hW : Below va.heap.size va W) => cell_on hW Y0
  have Y1q := fun W (hW : Below va.heap.size va W) => cell_on hW Y1
  have Y2q := fun W (hW : Below va.heap.size va W) => cell_on hW Y2
  refine wp_region_noPanic ?_
  refine wp_region_held_drew (S := (fun W => Below va.heap.size va W)) (by kernel_rfl) ?_ (fun hHeld => ?_)
  · exact (Below.refl _ _).drew
  refine wpAnyH_take (i := 0) (oi := ?oi1) (v := ?v1) ?hi1 (by kernel_rfl) (by kernel_rfl) (by kernel_rfl) ?hQ1 ?hy1 (by assumption) ?hrest1
  case hi1 => (simp only [List.getElem?_toArray, List.getElem?_cons_zero]; try rfl)
  case hQ1 => exact fun _ _ _ h => h
  case hy1 =>
    refine Or.inl ⟨by rfl, ?_⟩
    (intro wq hSw; (try dsimp only at hSw); go_simp; try with_reducible rfl)
  (try simp only [Act.put, List.setIfInBounds_toArray, List.set_cons_zero, List.set_cons_succ])
  refine wpAnyH_take (i := 1) (oi := ?oi2) (v := ?v2) ?hi2 (by kernel_rfl) (by kernel_rfl) (by kernel_rfl) ?hQ2 ?hy2 (by assumption) ?hrest2
  case hi2 => (simp only [List.getElem?_toArray, List.getElem?_cons_succ, List.getElem?_cons_zero]; try rfl)
  case hQ2 => exact fun _ _ _ h => h
  case hy2 =>
    refine Or.inl ⟨by rfl, ?_⟩
    (intro wq hSw; (try dsimp only at hSw); go_simp; try with_reducible rfl)
  (try simp only [Act.put, List.setIfInBounds_toArray, List.set_cons_zero, List.set_cons_succ])
  refine wpAnyH_take (i := 2) (oi := ?oi3) (v := ?v3) ?hi3 (by kernel_rfl) (by kernel_rfl) (by kernel_rfl) ?hQ3 ?hy3 (by assumption) ?hrest3
  case hi3 => (simp only [List.getElem?_toArray, List.getElem?_cons_succ, List.getElem?_cons_zero]; try rfl)
  case hQ3 => exact fun _ _ _ h => h
  case hy3 =>
    refine Or.inl ⟨by rfl, ?_⟩
    (intro wq hSw; (try dsimp only at hSw); go_simp; try with_reducible rfl)
  (try simp only [Act.put, List.setIfInBounds_toArray, List.set_cons_zero, List.set_cons_succ])
  refine wpAnyH_take (i := 5) (oi := ?oi4) (v := ?v4) ?hi4 (by kernel_rfl) (by kernel_rfl) (by kernel_rfl) ?hQ4 ?hy4 (by assumption) ?hrest4
  case hi4 => (simp only [List.getElem?_toArray, List.getElem?_cons_succ, List.getElem?_cons_zero]; try rfl)
  case hQ4 => exact fun _ _ _ h => h
  case hy4 =>
    refine Or.inl ⟨by rfl, ?_⟩
    (intro wq hSw; (try dsimp only at hSw); go_simp; try with_reducible rfl)
  (try simp only [Act.put, List.setIfInBounds_toArray, List.set_cons_zero, List.set_cons_succ])
  refine wpAnyH_ready (rs := [3]) (by kernel_rfl) (by simp) ?_
  refine AllReadyH.cons (o := ?oi5) ?hi5 (fun K hK => ?hstep5) AllReadyH.nil
  case hi5 => (simp only [List.getElem?_toArray, List.getElem?_cons_succ, List.getElem?_cons_zero]; try rfl)
  go_simp
  (refine (N1.out _).mono ?_; rintro e wx ⟨rfl, hbx⟩)
  refine hK.out _ _ ?_ (fun hHeld => ?_)
  · exact below_step hHeld hbx
  clear hK K
  (try simp only [Act.put, List.setIfInBounds_toArray, List.set_cons_zero, List.set_cons_succ])
  refine wpAnyH_ready (rs := [4]) (by kernel_rfl) (by simp) ?_
  refine AllReadyH.cons (o := ?oi6) ?hi6 (fun K hK => ?hstep6) AllReadyH.nil
  case hi6 => (simp only [List.getElem?_toArray, List.getElem?_cons_succ, List.getElem?_cons_zero]; try rfl)
  go_simp
  (refine (N2.out _).mono ?_; rintro e wx ⟨rfl, hbx⟩)
  refine hK.out _ _ ?_ (fun hHeld => ?_)
  · exact below_step hHeld hbx
  clear hK K
  (try simp only [Act.put, List.setIfInBounds_toArray, List.set_cons_zero, List.set_cons_succ])
  refine wpAnyH_ready (rs := [6]) (by kernel_rfl) (by simp) ?_
  refine AllReadyH.cons (o := ?oi7) ?hi7 (fun K hK => ?hstep7) AllReadyH.nil
  case hi7 => (simp only [List.getElem?_toArray, List.getElem?_cons_succ, List.getElem?_cons_zero]; try rfl)
  go_simp
  (refine (rsame_yes (l := []) _ _ (Rd.nil _ _) (Rd.nil _ _)).mono ?_; rintro e wx ⟨rfl, hbx⟩)
  refine hK.out _ _ ?_ (fun hHeld => ?_)
  · exact below_step hHeld hbx
  clear hK K
  (try simp only [Act.put, List.setIfInBounds_toArray, List.set_cons_zero, List.set_cons_succ])
  refine wpAnyH_take (i := 7) (oi := ?oi8) (v := ?v8) ?hi8 (by kernel_rfl) (by kernel_rfl) (by kernel_rfl) ?hQ8 ?hy8 (by assumption) ?hrest8
  case hi8 => (simp only [List.getElem?_toArray, List.getElem?_cons_succ, List.getElem?_cons_zero]; try rfl)
  case hQ8 => exact fun _ _ _ h => h
  case hy8 =>
    refine Or.inl ⟨by rfl, ?_⟩
    (intro wq hSw; (try dsimp only at hSw); go_simp; try with_reducible rfl)
  (try simp only [Act.put, List.setIfInBounds_toArray, List.set_cons_zero, List.set_cons_succ])
  refine wpAnyH_take (i := 8) (oi := ?oi9) (v := ?v9) ?hi9 (by kernel_rfl) (by kernel_rfl) (by kernel_rfl) ?hQ9 ?hy9 (by assumption) ?hrest9
  case hi9 => (simp only [List.getElem?_toArray, List.getElem?_cons_succ, List.getElem?_cons_zero]; try rfl)
  case hQ9 => exact fun _ _ _ h => h
  case hy9 =>
    refine Or.inl ⟨by rfl, ?_⟩
    (intro wq hSw; (try dsimp only at hSw); go_simp; try with_reducible rfl)
  (try simp only [Act.put, List.setIfInBounds_toArray, List.set_cons_zero, List.set_cons_succ])
  refine wpAnyH_take (i := 9) (oi := ?oi10) (v := ?v10) ?hi10 (by kernel_rfl) (by kernel_rfl) (by kernel_rfl) ?hQ10 ?hy10 (by assumption) ?hrest10
  case hi10 => (simp only [List.getElem?_toArray, List.getElem?_cons_succ, List.getElem?_cons_zero]; try rfl)
  case hQ10 => exact fun _ _ _ h => h
  case hy10 =>
    refine Or.inl ⟨by rfl, ?_⟩
    (intro wq hSw; (try dsimp only at hSw); go_simp; try with_reducible rfl)
  (try simp only [Act.put, List.setIfInBounds_toArray, List.set_cons_zero, List.set_cons_succ])
  refine wpAnyH_take (i := 10) (oi := ?oi11) (v := ?v11) ?hi11 (by kernel_rfl) (by kernel_rfl) (by kernel_rfl) ?hQ11 ?hy11 (by assumption) ?hrest11
  case hi11 => (simp only [List.getElem?_toArray, List.getElem?_cons_succ, List.getElem?_cons_zero]; try rfl)
  case hQ11 => exact fun _ _ _ h => h
  case hy11 =>
    refine Or.inl ⟨by rfl, ?_⟩
    (intro wq hSw; (try dsimp only at hSw); go_simp; try with_reducible rfl)
  (try simp only [Act.put, List.setIfInBounds_toArray, List.set_cons_zero, List.set_cons_succ])
  refine wpAnyH_take (i := 11) (oi := ?oi12) (v := ?v12) ?hi12 (by kernel_rfl) (by kernel_rfl) (by kernel_rfl) ?hQ12 ?hy12 (by assumption) ?hrest12
  case hi12 => (simp only [List.getElem?_toArray, List.getElem?_cons_succ, List.getElem?_cons_zero]; try rfl)
  case hQ12 => exact fun _ _ _ h => h
  case hy12 =>
    refine Or.inl ⟨by rfl, ?_⟩
    (intro wq hSw; (try dsimp only at hSw); go_simp; try with_reducible rfl)
  (try simp only [Act.put, List.setIfInBounds_toArray, List.set_cons_zero, List.set_cons_succ])
  refine wpAnyH_take (i := 12) (oi := ?oi13) (v := ?v13) ?hi13 (by kernel_rfl) (by kernel_rfl) (by kernel_rfl) ?hQ13 ?hy13 (by assumption) ?hrest13
  case hi13 => (simp only [List.getElem?_toArray, List.getElem?_cons_succ, List.getElem?_cons_zero]; try rfl)
  case hQ13 => exact fun _ _ _ h => h
  case hy13 =>
    refine Or.inl ⟨by rfl, ?_⟩
    (intro wq hSw; (try dsimp only at hSw); go_simp; try with_reducible rfl)
  (try simp only [Act.put, List.setIfInBounds_toArray, List.set_cons_zero, List.set_cons_succ])
  refine wpAnyH_take (i := 15) (oi := ?oi14) (v := ?v14) ?hi14 (by kernel_rfl) (by kernel_rfl) (by kernel_rfl) ?hQ14 ?hy14 (by assumption) ?hrest14
  case hi14 => (simp only [List.getElem?_toArray, List.getElem?_cons_succ, List.getElem?_cons_zero]; try rfl)
  case hQ14 => exact fun _ _ _ h => h
  case hy14 =>
    refine Or.inl ⟨by rfl, ?_⟩
    (intro wq hSw; (try dsimp only at hSw); go_simp; try with_reducible rfl)
  (try simp only [Act.put, List.setIfInBounds_toArray, List.set_cons_zero, List.set_cons_succ])
  refine wpAnyH_take (i := 16) (oi := ?oi15) (v := ?v15) ?hi15 (by kernel_rfl) (by kernel_rfl) (by kernel_rfl) ?hQ15 ?hy15 (by assumption) ?hrest15
  case hi15 => (simp only [List.getElem?_toArray, List.getElem?_cons_succ, List.getElem?_cons_zero]; try rfl)
  case hQ15 => exact fun _ _ _ h => h
  case hy15 =>
    refine Or.inl ⟨by rfl, ?_⟩
    (intro wq hSw; (try dsimp only at hSw); go_simp; try with_reducible rfl)
  (try simp only [Act.put, List.setIfInBounds_toArray, List.set_cons_zero, List.set_cons_succ])
  refine wpAnyH_take (i := 17) (oi := ?oi16) (v := ?v16) ?hi16 (by kernel_rfl) (by kernel_rfl) (by kernel_rfl) ?hQ16 ?hy16 (by assumption) ?hrest16
  case hi16 => (simp only [List.getElem?_toArray, List.getElem?_cons_succ, List.getElem?_cons_zero]; try rfl)
  case hQ16 => exact fun _ _ _ h => h
  case hy16 =>
    refine Or.inl ⟨by rfl, ?_⟩
    (intro wq hSw; (try dsimp only at hSw); go_simp; try with_reducible rfl)
  (try simp only [Act.put, List.setIfInBounds_toArray, List.set_cons_zero, List.set_cons_succ])
  refine wpAnyH_take (i := 19) (oi := ?oi17) (v := ?v17) ?hi17 (by kernel_rfl) (by kernel_rfl) (by kernel_rfl) ?hQ17 ?hy17 (by assumption) ?hrest17
  case hi17 => (simp only [List.getElem?_toArray, List.getElem?_cons_succ, List.getElem?_cons_zero]; try rfl)
  case hQ17 => exact fun _ _ _ h => h
  case hy17 =>
    refine Or.inl ⟨by rfl, ?_⟩
    (intro wq hSw; (try dsimp only at hSw); go_simp; try with_reducible rfl)
  (try simp only [Act.put, List.setIfInBounds_toArray, List.set_cons_zero, List.set_cons_succ])
  refine wpAnyH_take (i := 20) (oi := ?oi18) (v := ?v18) ?hi18 (by kernel_rfl) (by kernel_rfl) (by kernel_rfl) ?hQ18 ?hy18 (by assumption) ?hrest18
  case hi18 => (simp only [List.getElem?_toArray, List.getElem?_cons_succ, List.getElem?_cons_zero]; try rfl)
  case hQ18 => exact fun _ _ _ h => h
  case hy18 =>
    refine Or.inl ⟨by rfl, ?_⟩
    (intro wq hSw; (try dsimp only at hSw); go_simp; try with_reducible rfl)
  (try simp only [Act.put, List.setIfInBounds_toArray, List.set_cons_zero, List.set_cons_succ])
  refine wpAnyH_ready (rs := [13]) (by kernel_rfl) (by simp) ?_
  refine AllReadyH.cons (o := ?oi19) ?hi19 (fun K hK => ?hstep19) AllReadyH.nil
  case hi19 => (simp only [List.getElem?_toArray, List.getElem?_cons_succ, List.getElem?_cons_zero]; try rfl)
  go_simp
  (refine (AN.out _).mono ?_; rintro e wx ⟨rfl, hbx⟩)
  refine hK.out _ _ ?_ (fun hHeld => ?_)
  · exact below_step hHeld hbx
  clear hK K
  (try simp only [Act.put, List.setIfInBounds_toArray, List.set_cons_zero, List.set_cons_succ])
  refine wpAnyH_ready (rs := [14]) (by kernel_rfl) (by simp) ?_
  refine AllReadyH.cons (o := ?oi20) ?hi20 (fun K hK => ?hstep20) AllReadyH.nil
  case hi20 => (simp only [List.getElem?_toArray, List.getElem?_cons_succ, List.getElem?_cons_zero]; try rfl)
  go_simp
  (refine (NR.out _).mono ?_; rintro e wx ⟨rfl, hbx⟩)
  refine hK.out _ _ ?_ (fun hHeld => ?_)
  · exact below_step hHeld hbx
  clear hK K
  (try simp only [Act.put, List.setIfInBounds_toArray, List.set_cons_zero, List.set_cons_succ])
  refine wpAnyH_ready (rs := [18]) (by kernel_rfl) (by simp) ?_
  refine AllReadyH.cons (o := ?oi21) ?hi21 (fun K hK => ?hstep21) AllReadyH.nil
  case hi21 => (simp only [List.getElem?_toArray, List.getElem?_cons_succ, List.getElem?_cons_zero]; try rfl)
  go_simp
  (refine (N1.out _).mono ?_; rintro e wx ⟨rfl, hbx⟩)
  refine hK.out _ _ ?_ (fun hHeld => ?_)
  · exact below_step hHeld hbx
  clear hK K
  (try simp only [Act.put, List.setIfInBounds_toArray, List.set_cons_zero, List.set_cons_succ])
  refine wpAnyH_ready (rs := [21]) (by kernel_rfl) (by simp) ?_
  refine AllReadyH.cons (o := ?oi22) ?hi22 (fun K hK => ?hstep22) AllReadyH.nil
  case hi22 => (simp only [List.getElem?_toArray, List.getElem?_cons_succ, List.getElem?_cons_zero]; try rfl)
  go_simp
  (refine (NQ.out _).mono ?_; rintro e wx ⟨rfl, hbx⟩)
  refine hK.out _ _ ?_ (fun hHeld => ?_)
  · exact below_step hHeld hbx
  clear hK K
  (try simp only [Act.put, List.setIfInBounds_toArray, List.set_cons_zero, List.set_cons_succ])
  refine wpAnyH_ready (rs := [22]) (by kernel_rfl) (by simp) ?_
  refine AllReadyH.cons (o := ?oi23) ?hi23 (fun K hK => ?hstep23) AllReadyH.nil
  case hi23 => (simp only [List.getElem?_toArray, List.getElem?_cons_succ, List.getElem?_cons_zero]; try rfl)
  go_simp
  (refine (OR.out _).mono ?_; rintro e wx ⟨rfl, hbx⟩)
  refine hK.out _ _ ?_ (fun hHeld => ?_)
  · exact below_step hHeld hbx
  clear hK K
  (try simp only [Act.put, List.setIfInBounds_toArray, List.set_cons_zero, List.set_cons_succ])
  refine wpAnyH_ready (rs := [23]) (by kernel_rfl) (by simp) ?_
  refine AllReadyH.cons (o := ?oi24) ?hi24 (fun K hK => ?hstep24) AllReadyH.nil
  case hi24 => (simp only [List.getElem?_toArray, List.getElem?_cons_succ, List.getElem?_cons_zero]; try rfl)
  go_simp
  (refine (rsame_yes (l := []) _ _ (Rd.nil _ _) (Rd.nil _ _)).mono ?_; rintro e wx ⟨rfl, hbx⟩)
  refine hK.out _ _ ?_ (fun hHeld => ?_)
  · exact below_step hHeld hbx
  clear hK K
  (try simp only [Act.put, List.setIfInBounds_toArray, List.set_cons_zero, List.set_cons_succ])
  refine wpAnyH_take (i := 24) (oi := ?oi25) (v := ?v25) ?hi25 (by kernel_rfl) (by kernel_rfl) (by kernel_rfl) ?hQ25 ?hy25 (by assumption) ?hrest25
  case hi25 => (simp only [List.getElem?_toArray, List.getElem?_cons_succ, List.getElem?_cons_zero]; try rfl)
  case hQ25 => exact fun _ _ _ h => h
  case hy25 =>
    refine Or.inl ⟨by rfl, ?_⟩
    (intro wq hSw; (try dsimp only at hSw); go_simp; try with_reducible rfl)
  (try simp only [Act.put, List.setIfInBounds_toArray, List.set_cons_zero, List.set_cons_succ])
  refine wpAnyH_take (i := 25) (oi := ?oi26) (v := ?v26) ?hi26 (by kernel_rfl) (by kernel_rfl) (by kernel_rfl) ?hQ26 ?hy26 (by assumption) ?hrest26
  case hi26 => (simp only [List.getElem?_toArray, List.getElem?_cons_succ, List.getElem?_cons_zero]; try rfl)
  case hQ26 => exact fun _ _ _ h => h
  case hy26 =>
    refine Or.inl ⟨by rfl, ?_⟩
    (intro wq hSw; (try dsimp only at hSw); go_simp; try with_reducible rfl)
  (try simp only [Act.put, List.setIfInBounds_toArray, List.set_cons_zero, List.set_cons_succ])
  refine wpAnyH_take (i := 26) (oi := ?oi27) (v := ?v27) ?hi27 (by kernel_rfl) (by kernel_rfl) (by kernel_rfl) ?hQ27 ?hy27 (by assumption) ?hrest27
  case hi27 => (simp only [List.getElem?_toArray, List.getElem?_cons_succ, List.getElem?_cons_zero]; try rfl)
  case hQ27 => exact fun _ _ _ h => h
  case hy27 =>
    refine Or.inl ⟨by rfl, ?_⟩
    (intro wq hSw; (try dsimp only at hSw); go_simp; try with_reducible rfl)
  (try simp only [Act.put, List.setIfInBounds_toArray, List.set_cons_zero, List.set_cons_succ])
  refine wpAnyH_take (i := 27) (oi := ?oi28) (v := ?v28) ?hi28 (by kernel_rfl) (by kernel_rfl) (by kernel_rfl) ?hQ28 ?hy28 (by assumption) ?hrest28
  case hi28 => (simp only [List.getElem?_toArray, List.getElem?_cons_succ, List.getElem?_cons_zero]; try rfl)
  case hQ28 => exact fun _ _ _ h => h
  case hy28 =>
    refine Or.inl ⟨by rfl, ?_⟩
    (intro wq hSw; (try dsimp only at hSw); go_simp; try with_reducible rfl)
  (try simp only [Act.put, List.setIfInBounds_toArray, List.set_cons_zero, List.set_cons_succ])
  refine wpAnyH_take (i := 28) (oi := ?oi29) (v := ?v29) ?hi29 (by kernel_rfl) (by kernel_rfl) (by kernel_rfl) ?hQ29 ?hy29 (by assumption) ?hrest29
  case hi29 => (simp only [List.getElem?_toArray, List.getElem?_cons_succ, List.getElem?_cons_zero]; try rfl)
  case hQ29 => exact fun _ _ _ h => h
  case hy29 =>
    refine Or.inl ⟨by rfl, ?_⟩
    (intro wq hSw; (try dsimp only at hSw); go_simp; try with_reducible rfl)
  (try simp only [Act.put, List.setIfInBounds_toArray, List.set_cons_zero, List.set_cons_succ])
  refine wpAnyH_take (i := 29) (oi := ?oi30) (v := ?v30) ?hi30 (by kernel_rfl) (by kernel_rfl) (by kernel_rfl) ?hQ30 ?hy30 (by assumption) ?hrest30
  case hi30 => (simp only [List.getElem?_toArray, List.getElem?_cons_succ, List.getElem?_cons_zero]; try rfl)
  case hQ30 => exact fun _ _ _ h => h
  case hy30 =>
    refine Or.inl ⟨by rfl, ?_⟩
    (intro wq hSw; (try dsimp only at hSw); go_simp; try with_reducible rfl)
  (try simp only [Act.put, List.setIfInBounds_toArray, List.set_cons_zero, List.set_cons_succ])
  refine wpAnyH_take (i := 31) (oi := ?oi31) (v := ?v31) ?hi31 (by kernel_rfl) (by kernel_rfl) (by kernel_rfl) ?hQ31 ?hy31 (by assumption) ?hrest31
  case hi31 => (simp only [List.getElem?_toArray, List.getElem?_cons_succ, List.getElem?_cons_zero]; try rfl)
  case hQ31 => exact fun _ _ _ h => h
  case hy31 =>
    refine Or.inl ⟨by rfl, ?_⟩
    (intro wq hSw; (try dsimp only at hSw); go_simp; try with_reducible rfl)
  (try simp only [Act.put, List.setIfInBounds_toArray, List.set_cons_zero, List.set_cons_succ])
  refine wpAnyH_take (i := 32) (oi := ?oi32) (v := ?v32) ?hi32 (by kernel_rfl) (by kernel_rfl) (by kernel_rfl) ?hQ32 ?hy32 (by assumption) ?hrest32
  case hi32 => (simp only [List.getElem?_toArray, List.getElem?_cons_succ, List.getElem?_cons_zero]; try rfl)
  case hQ32 => exact fun _ _ _ h => h
  case hy32 =>
    refine Or.inl ⟨by rfl, ?_⟩
    (intro wq hSw; (try dsimp only at hSw); go_simp; try with_reducible rfl)
  (try simp only [Act.put, List.setIfInBounds_toArray, List.set_cons_zero, List.set_cons_succ])
  refine wpAnyH_take (i := 33) (oi := ?oi33) (v := ?v33) ?hi33 (by kernel_rfl) (by kernel_rfl) (by kernel_rfl) ?hQ33 ?hy33 (by assumption) ?hrest33
  case hi33 => (simp only [List.getElem?_toArray, List.getElem?_cons_succ, List.getElem?_cons_zero]; try rfl)
  case hQ33 => exact fun _ _ _ h => h
  case hy33 =>
    refine Or.inl ⟨by rfl, ?_⟩
    (intro wq hSw; (try dsimp only at hSw); go_simp; try with_reducible rfl)
  (try simp only [Act.put, List.setIfInBounds_toArray, List.set_cons_zero, List.set_cons_succ])
  refine wpAnyH_take (i := 34) (oi := ?oi34) (v := ?v34) ?hi34 (by kernel_rfl) (by kernel_rfl) (by kernel_rfl) ?hQ34 ?hy34 (by assumption) ?hrest34
  case hi34 => (simp only [List.getElem?_toArray, List.getElem?_cons_succ, List.getElem?_cons_zero]; try rfl)
  case hQ34 => exact fun _ _ _ h => h
  case hy34 =>
    refine Or.inl ⟨by rfl, ?_⟩
    (intro wq hSw; (try dsimp only at hSw); go_simp; try with_reducible rfl)
  (try simp only [Act.put, List.setIfInBounds_toArray, List.set_cons_zero, List.set_cons_succ])
  refine wpAnyH_ready (rs := [30]) (by kernel_rfl) (by simp) ?_
  refine AllReadyH.cons (o := ?oi35) ?hi35 (fun K hK => ?hstep35) AllReadyH.nil
  case hi35 => (simp only [List.getElem?_toArray, List.getElem?_cons_succ, List.getElem?_cons_zero]; try rfl)
  go_simp
  (refine (EQ.out _).mono ?_; rintro e wx ⟨rfl, hbx⟩)
  refine hK.out _ _ ?_ (fun hHeld => ?_)
  · exact below_step hHeld hbx
  clear hK K
  (try simp only [Act.put, List.setIfInBounds_toArray, List.set_cons_zero, List.set_cons_succ])
  refine wpAnyH_ready (rs := [35]) (by kernel_rfl) (by simp) ?_
  refine AllReadyH.cons (o := ?oi36) ?hi36 (fun K hK => ?hstep36) AllReadyH.nil
  case hi36 => (simp only [List.getElem?_toArray, List.getElem?_cons_succ, List.getElem?_cons_zero]; try rfl)
  go_simp
  (refine (NE.out _).mono ?_; rintro e wx ⟨rfl, hbx⟩)
  refine hK.out _ _ ?_ (fun hHeld => ?_)
  · exact below_step hHeld hbx
  clear hK K
  (try simp only [Act.put, List.setIfInBounds_toArray, List.set_cons_zero, List.set_cons_succ])
  refine wpAnyH_ready (rs := [36]) (by kernel_rfl) (by simp) ?_
  refine AllReadyH.cons (o := ?oi37) ?hi37 (fun K hK => ?hstep37) AllReadyH.nil
  case hi37 => (simp only [List.getElem?_toArray, List.getElem?_cons_succ, List.getElem?_cons_zero]; try rfl)
  go_simp
  (refine (NV.out _).mono ?_; rintro e wx ⟨rfl, hbx⟩)
  refine hK.out _ _ ?_ (fun hHeld => ?_)
  · exact below_step hHeld hbx
  clear hK K
  (try simp only [Act.put, List.setIfInBounds_toArray, List.set_cons_zero, List.set_cons_succ])
  refine wpAnyH_ready (rs := [37]) (by kernel_rfl) (by simp) ?_
  refine AllReadyH.cons (o := ?oi38) ?hi38 (fun K hK => ?hstep38) AllReadyH.nil
  case hi38 => (simp only [List.getElem?_toArray, List.getElem?_cons_succ, List.getElem?_cons_zero]; try rfl)
  go_simp
  (refine (rsame_yes (l := []) _ _ (Rd.nil _ _) (Rd.nil _ _)).mono ?_; rintro e wx ⟨rfl, hbx⟩)
  refine hK.out _ _ ?_ (fun hHeld => ?_)
  · exact below_step hHeld hbx
  clear hK K
  (try simp only [Act.put, List.setIfInBounds_toArray, List.set_cons_zero, List.set_cons_succ])
  refine wpAnyH_take (i := 38) (oi := ?oi39) (v := ?v39) ?hi39 (by kernel_rfl) (by kernel_rfl) (by kernel_rfl) ?hQ39 ?hy39 (by assumption) ?hrest39
  case hi39 => (simp only [List.getElem?_toArray, List.getElem?_cons_succ, List.getElem?_cons_zero]; try rfl)
  case hQ39 => exact fun _ _ _ h => h
  case hy39 =>
    refine Or.inl ⟨by rfl, ?_⟩
    (intro wq hSw; (try dsimp only at hSw); go_simp; try with_reducible rfl)
  (try simp only [Act.put, List.setIfInBounds_toArray, List.set_cons_zero, List.set_cons_succ])
  refine wpAnyH_take (i := 39) (oi := ?oi40) (v := ?v40) ?hi40 (by kernel_rfl) (by kernel_rfl) (by kernel_rfl) ?hQ40 ?hy40 (by assumption) ?hrest40
  case hi40 => (simp only [List.getElem?_toArray, List.getElem?_cons_succ, List.getElem?_cons_zero]; try rfl)
  case hQ40 => exact fun _ _ _ h => h
  case hy40 =>
    refine Or.inl ⟨by rfl, ?_⟩
    (intro wq hSw; (try dsimp only at hSw); go_simp; try with_reducible rfl)
  (try simp only [Act.put, List.setIfInBounds_toArray, List.set_cons_zero, List.set_cons_succ])
  refine wpAnyH_done (by kernel_rfl) ?_ _
  refine NoPanic.normal ?_
  rename_i wz
  have bz := below_step bva hHeld
  clear hHeld
  rcases MM with ⟨rfl, rfl⟩ | ⟨hn, rfl, rfl, MB⟩
  · go_wp2_with fail
    refine (num_any _ _).mono ?_
    rintro e w21 ⟨rfl, hb21⟩
    have bb21 := below_step bz hb21
    go_wp2_with fail
    refine (MI.out _).mono ?_
    rintro e w22 ⟨rfl, hb22⟩
    have bb22 := below_step bb21 hb22
    go_wp2_with fail
    go_ret
    exact ⟨rfl, below_step bb22 (below_alloc _ _)⟩
  · go_wp2_with fail
    refine (num_any _ _).mono ?_
    rintro e w21 ⟨rfl, hb21⟩
    have bb21 := below_step bz hb21
    go_wp2_with fail
    refine (MI.out _).mono ?_
    rintro e w22 ⟨rfl, hb22⟩
    have bb22 := below_step bb21 hb22
    go_wp2_with fail
    refine (MB.out _).mono ?_
    rintro e w30 ⟨rfl, hb30⟩
    have bb30 := below_step (below_step bb22 (below_alloc _ _)) hb30
    go_wp2_with fail
    refine (num_any _ _).mono ?_
    rintro e w31 ⟨rfl, hb31⟩
    have bb31 := below_step bb30 hb31
    go_wp2_with fail
    refine (rsame_yes (l := []) _ _ (Rd.nil _ _) (Rd.nil _ _)).mono ?_
    rintro e w32 ⟨rfl, hb32⟩
    have bb32 := below_step bb31 hb32
    go_wp2_with fail
    go_ret
    exact ⟨rfl, bb32⟩
theorem bools_law (a b : Bool) (n : Int) (w : World) (hn : -9223372036854775808 ≤ n ∧ n < 9223372036854775808) :
    Calls Try.prog 7 #[.bool a, .bool b, .int .i64 n] w fun e w' => e = .returned (.bool true) ∧ Below w.heap.size w w' := by
  have NT := fun (x : Int) (w : World) => one_not (A := none) (n := 0) (c := 0) x w
  have TA := fun (x y : Int) (w : World) => twob_and (A := none) (B := none) (n := 0) (m := 0) (c := 0) (d := 0) x y w
  have TO := fun (x y : Int) (w : World) => twob_or (A := none) (B := none) (n := 0) (m := 0) (c := 0) (d := 0) x y w
  have TE := fun (x y : Int) (w : World) => twob_eql (A := none) (B := none) (n := 0) (m := 0) (c := 0) (d := 0) x y w
  have TN := fun (x y : Int) (w : World) => twob_neq (A := none) (B := none) (n := 0) (m := 0) (c := 0) (d := 0) x y w
  have KA := fun w => bool_any a w
  have KB := fun w => bool_any b w
  unfold vbool at NT TA TO TE TN KA KB
  by_cases h : n = -9223372036854775808
  · have M := fun w => one_min (A := none) (n := 0) (c := 0) w
    rw [← h] at M
    cases a <;> cases b <;> exact bools_main _ _ n _ _ _ _ _ _ _ _ _ _ _ w (hid KA) (hid KB) (hid (b1_any (NT _))) (hid (b1_any (NT _))) (hid (b2_any (TA _ _))) (hid (b1_any (NT _))) (hid (b1_any (NT _))) (hid (b2_any (TO _ _))) (hid (b2_any (TE _ _))) (hid (b2_any (TN _ _))) (hid (b1_any (NT _))) (hid M) (.inl ⟨h, rfl⟩)
  · have M := fun w => one_neg (A := none) (n := 0) (c := 0) n w (by omega)
    have M2 := fun w => one_neg (A := none) (n := 0) (c := 0) (-n) w (by omega)
    rw [Int.neg_neg] at M2
    cases a <;> cases b <;> exact bools_main _ _ n _ _ _ _ _ _ _ _ _ _ _ w (hid KA) (hid KB) (hid (b1_any (NT _))) (hid (b1_any (NT _))) (hid (b2_any (TA _ _))) (hid (b1_any (NT _))) (hid (b1_any (NT _))) (hid (b2_any (TO _ _))) (hid (b2_any (TE _ _))) (hid (b2_any (TN _ _))) (hid (b1_any (NT _))) (hid M) (.inr ⟨beq_eq_false_iff_ne.2 h, rfl, rfl, hid (b1_any M2)⟩)
end Go.Proofs.Yteioiebkielaeaa
