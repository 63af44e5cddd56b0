import Derived.Test.YteioiebkielaeaaArithK
namespace Go.Proofs.Yteioiebkielaeaa
open Go.RowKit Go.Cov Go.Lib
set_option maxRecDepth 100000 in
set_option maxHeartbeats 3200000 in
theorem parts_no (a b t : Int) (w : World) (h : t = 2 ∧ b = 0 ∨ t = 3 ∧ b ≠ 0) (K1 : Hid (∀ w, Calls Try.prog 10 #[.string ⟨#[47]⟩, .agg #[.int .i64 1, .int .i64 a, .slice none 0 0], .agg #[.int .i64 1, .int .i64 b, .slice none 0 0]] w fun e w' => e = .returned (.tuple #[.agg #[.int .i64 0, .int .i64 0, .slice none 0 0], .int .i64 t]) ∧ Below w.heap.size w w')) (K2 : Hid (∀ w, Calls Try.prog 10 #[.string ⟨#[37]⟩, .agg #[.int .i64 1, .int .i64 a, .slice none 0 0], .agg #[.int .i64 1, .int .i64 b, .slice none 0 0]] w fun e w' => e = .returned (.tuple #[.agg #[.int .i64 0, .int .i64 0, .slice none 0 0], .int .i64 t]) ∧ Below w.heap.size w w')) :
    Calls Try.prog 4 #[.int .i64 a, .int .i64 b] w fun e w' => e = .returned (.bool true) ∧ Below w.heap.size w w' := by
  have z1 : (t != 0) = true := by rcases h with ⟨rfl, _⟩ | ⟨rfl, _⟩ <;> rfl
  have z2 : ((t == 2) == (b == 0)) = true := by
    rcases h with ⟨rfl, rfl⟩ | ⟨rfl, h⟩
    · rfl
    · rw [beq_eq_false_iff_ne.2 h]; rfl
  have z3 : (t != t) = false := by simp
  clear h
  go_enter Try.func4, Try.ntmps4
  go_wp2_with fail
  refine (head_any _).mono ?_
  rintro e w1 ⟨rfl, hb1⟩
  have bb1 := hb1
  go_wp2_with fail
  refine (num_any _ _).mono ?_
  rintro e w2 ⟨rfl, hb2⟩
  have bb2 := below_step bb1 hb2
  go_wp2_with fail
  refine (num_any _ _).mono ?_
  rintro e w3 ⟨rfl, hb3⟩
  have bb3 := below_step bb2 hb3
  go_wp2_with fail
  refine (K1.out _).mono ?_
  rintro e w4 ⟨rfl, hb4⟩
  have bb4 := below_step bb3 hb4
  go_wp2_with fail
  refine (num_any _ _).mono ?_
  rintro e w5 ⟨rfl, hb5⟩
  have S0 := var_on hb5 0 _ rfl
  have S1 := var_on hb5 1 _ rfl
  have S2 := var_on hb5 2 _ rfl
  have bb5 := below_step (below_step bb4 (below_alloc _ _)) hb5
  go_wp2_with fail
  refine (num_any _ _).mono ?_
  rintro e w6 ⟨rfl, hb6⟩
  have S0 := cell_on hb6 S0
  have S1 := cell_on hb6 S1
  have S2 := cell_on hb6 S2
  have bb6 := below_step bb5 hb6
  go_wp2_with fail
  refine (K2.out _).mono ?_
  rintro e w7 ⟨rfl, hb7⟩
  have S0 := cell_on hb7 S0
  have S1 := cell_on hb7 S1
  have S2 := cell_on hb7 S2
  have bb7 := below_step bb6 hb7
  go_wp2_with fail
  go_ret
  exact ⟨rfl, below_step bb7 (below_alloc _ _)⟩
set_option maxRecDepth 100000 in
set_option maxHeartbeats 6400000 in
theorem parts_ok (a b q r p : Int) (w : World) (hf : ((r == 0) = true ∧ True ∧ True) ∨ ((r == 0) = false ∧ r < 0 ∧ a < 0) ∨ ((r == 0) = false ∧ ¬ r < 0 ∧ ¬ a < 0)) (hg : (0 < b ∧ r < b ∧ IntKind.i64.wrap (-b) = -b ∧ -b < r ∧ True) ∨ (¬ 0 < b ∧ b < 0 ∧ b < r ∧ (b == -9223372036854775808) = true ∧ True) ∨ (¬ 0 < b ∧ b < 0 ∧ b < r ∧ (b == -9223372036854775808) = false ∧ (IntKind.i64.wrap (-b) = -b ∧ r < -b))) (K1 : Hid (∀ w, Calls Try.prog 10 #[.string ⟨#[47]⟩, .agg #[.int .i64 1, .int .i64 a, .slice none 0 0], .agg #[.int .i64 1, .int .i64 b, .slice none 0 0]] w fun e w' => e = .returned (.tuple #[.agg #[.int .i64 1, .int .i64 q, .slice none 0 0], .int .i64 0]) ∧ Below w.heap.size w w')) (K2 : Hid (∀ w, Calls Try.prog 10 #[.string ⟨#[37]⟩, .agg #[.int .i64 1, .int .i64 a, .slice none 0 0], .agg #[.int .i64 1, .int .i64 b, .slice none 0 0]] w fun e w' => e = .returned (.tuple #[.agg #[.int .i64 1, .int .i64 r, .slice none 0 0], .int .i64 0]) ∧ Below w.heap.size w w')) (K3 : Hid (∀ w, Calls Try.prog 10 #[.string ⟨#[42]⟩, .agg #[.int .i64 1, .int .i64 q, .slice none 0 0], .agg #[.int .i64 1, .int .i64 b, .slice none 0 0]] w fun e w' => e = .returned (.tuple #[.agg #[.int .i64 1, .int .i64 p, .slice none 0 0], .int .i64 0]) ∧ Below w.heap.size w w')) (K4 : Hid (∀ w, Calls Try.prog 10 #[.string ⟨#[43]⟩, .agg #[.int .i64 1, .int .i64 p, .slice none 0 0], .agg #[.int .i64 1, .int .i64 r, .slice none 0 0]] w fun e w' => e = .returned (.tuple #[.agg #[.int .i64 1, .int .i64 a, .slice none 0 0], .int .i64 0]) ∧ Below w.heap.size w w')) :
    Calls Try.prog 4 #[.int .i64 a, .int .i64 b] w fun e w' => e = .returned (.bool true) ∧ Below w.heap.size w w' := by
  go_enter Try.func4, Try.ntmps4
  go_wp2_with fail
  refine (head_any _).mono ?_
  rintro e w1 ⟨rfl, hb1⟩
  have bb1 := hb1
  go_wp2_with fail
  refine (num_any _ _).mono ?_
  rintro e w2 ⟨rfl, hb2⟩
  have bb2 := below_step bb1 hb2
  go_wp2_with fail
  refine (num_any _ _).mono ?_
  rintro e w3 ⟨rfl, hb3⟩
  have bb3 := below_step bb2 hb3
  go_wp2_with fail
  refine (K1.out _).mono ?_
  rintro e w4 ⟨rfl, hb4⟩
  have bb4 := below_step bb3 hb4
  go_wp2_with fail
  refine (num_any _ _).mono ?_
  rintro e w5 ⟨rfl, hb5⟩
  have S0 := var_on hb5 0 _ rfl
  have S1 := var_on hb5 1 _ rfl
  have S2 := var_on hb5 2 _ rfl
  have bb5 := below_step (below_step bb4 (below_alloc _ _)) hb5
  go_wp2_with fail
  refine (num_any _ _).mono ?_
  rintro e w6 ⟨rfl, hb6⟩
  have S0 := cell_on hb6 S0
  have S1 := cell_on hb6 S1
  have S2 := cell_on hb6 S2
  have bb6 := below_step bb5 hb6
  go_wp2_with fail
  refine (K2.out _).mono ?_
  rintro e w7 ⟨rfl, hb7⟩
  have S0 := cell_on hb7 S0
  have S1 := cell_on hb7 S1
  have S2 := cell_on hb7 S2
  have bb7 := below_step bb6 hb7
  go_upto_region 8 with fail
  obtain ⟨va, hva⟩ : ∃ va, w7.alloc (.cells #[.int .i64 1, .int .i64 r, .slice none 0 0] 26) = va := ⟨_, rfl⟩
  have S0 := cell_on (below_alloc w7 (.cells #[.int .i64 1, .int .i64 r, .slice none 0 0] 26)) S0
  have S1 := cell_on (below_alloc w7 (.cells #[.int .i64 1, .int .i64 r, .slice none 0 0] 26)) S1
  have S2 := cell_on (below_alloc w7 (.cells #[.int .i64 1, .int .i64 r, .slice none 0 0] 26)) S2
  have D0 := box_cell w7 #[.int .i64 1, .int .i64 r, .slice none 0 0] 26 0 _ rfl
  have D1 := box_cell w7 #[.int .i64 1, .int .i64 r, .slice none 0 0] 26 1 _ rfl
  have D2 := box_cell w7 #[.int .i64 1, .int .i64 r, .slice none 0 0] 26 2 _ rfl
  have bva := below_step bb7 (below_alloc w7 (.cells #[.int .i64 1, .int .i64 r, .slice none 0 0] 26))
  have zva : w7.heap.size < (w7.alloc (.cells #[.int .i64 1, .int .i64 r, .slice none 0 0] 26)).heap.size := by simp
  rw [hva] at S0 S1 S2 D0 D1 D2 bva zva ⊢
  clear hva
  go_cut [10, 11] (fun s10 s11 wx => ∃ b, s10 = .pointer (some ⟨b, 0, none⟩) ∧ s11 = .int .i64 0 ∧ wx.cell? ⟨b, 0, none⟩ = some (.int .i64 1) ∧ wx.cell? ⟨b, 1, none⟩ = some (.int .i64 p) ∧ wx.cell? ⟨b, 2, none⟩ = some (.slice none 0 0) ∧ Below va.heap.size va wx)
  case first =>
    have S0q := fun W (hW : Below va.heap.size va W) => cell_on hW S0
    have S1q := fun W (hW : Below va.heap.size va W) => cell_on hW S1
    have S2q := fun W (hW : Below va.heap.size va W) => cell_on hW S2
    have D0q := fun W (hW : Below va.heap.size va W) => cell_on hW D0
    have D1q := fun W (hW : Below va.heap.size va W) => cell_on hW D1
    have D2q := fun W (hW : Below va.heap.size va W) => cell_on hW D2
    refine wp_region_noPanic ?_
    refine wp_region_held_drew (S := (fun W => Below va.heap.size va W)) (by kernel_rfl) ?_ (fun hHeld => ?_)
    · exact (Below.refl _ _).drew
    refine wpAnyH_take (i := 0) (oi := ?oi1) (v := ?v1) ?hi1 (by kernel_rfl) (by kernel_rfl) (by kernel_rfl) ?hQ1 ?hy1 (by assumption) ?hrest1
    case hi1 => (simp only [List.getElem?_toArray, List.getElem?_cons_zero]; try rfl)
    case hQ1 => exact fun _ _ _ h => h
    case hy1 =>
      refine Or.inl ⟨by rfl, ?_⟩
      (intro wq hSw; (try dsimp only at hSw); go_simp; try with_reducible rfl)
    (try simp only [Act.put, List.setIfInBounds_toArray, List.set_cons_zero, List.set_cons_succ])
    refine wpAnyH_take (i := 1) (oi := ?oi2) (v := ?v2) ?hi2 (by kernel_rfl) (by kernel_rfl) (by kernel_rfl) ?hQ2 ?hy2 (by assumption) ?hrest2
    case hi2 => (simp only [List.getElem?_toArray, List.getElem?_cons_succ, List.getElem?_cons_zero]; try rfl)
    case hQ2 => exact fun _ _ _ h => h
    case hy2 =>
      refine Or.inl ⟨by rfl, ?_⟩
      (intro wq hSw; (try dsimp only at hSw); go_simp; try with_reducible rfl)
    (try simp only [Act.put, List.setIfInBounds_toArray, List.set_cons_zero, List.set_cons_succ])
    refine wpAnyH_ready (rs := [2, 7]) (by kernel_rfl) (by simp) ?_
    refine AllReadyH.cons (o := ?oi3) ?hi3 (fun K hK => ?hstep3) ?hmore3
    case hi3 => (simp only [List.getElem?_toArray, List.getElem?_cons_succ, List.getElem?_cons_zero]; try rfl)
    case hstep3 =>
      go_simp
      (refine (num_any _ _).mono ?_; rintro e wx ⟨rfl, hbx⟩; (try have n0 := cell_on hbx n0); (try have f0 := froz_on hbx nz f0); (try have n1 := cell_on hbx n1); (try have f1 := froz_on hbx nz f1); (try have n2 := cell_on hbx n2); (try have f2 := froz_on hbx nz f2); (try have nz := Nat.lt_of_lt_of_le nz hbx.size))
      refine hK.out _ _ ?_ (fun hHeld => ?_)
      · exact below_step hHeld hbx
      clear hK K
      (try simp only [Act.put, List.setIfInBounds_toArray, List.set_cons_zero, List.set_cons_succ])
      refine wpAnyH_ready (rs := [3, 7]) (by kernel_rfl) (by simp) ?_
      refine AllReadyH.cons (o := ?oi4) ?hi4 (fun K hK => ?hstep4) ?hmore4
      case hi4 => (simp only [List.getElem?_toArray, List.getElem?_cons_succ, List.getElem?_cons_zero]; try rfl)
      case hstep4 =>
        go_simp
        (refine (K3.out _).mono ?_; rintro e wx ⟨rfl, hbx⟩; (try have n0 := cell_on hbx n0); (try have f0 := froz_on hbx nz f0); (try have n1 := cell_on hbx n1); (try have f1 := froz_on hbx nz f1); (try have n2 := cell_on hbx n2); (try have f2 := froz_on hbx nz f2); (try have nz := Nat.lt_of_lt_of_le nz hbx.size))
        refine hK.out _ _ ?_ (fun hHeld => ?_)
        · exact below_step hHeld hbx
        clear hK K
        (try simp only [Act.put, List.setIfInBounds_toArray, List.set_cons_zero, List.set_cons_succ])
        refine wpAnyH_take (i := 4) (oi := ?oi5) (v := ?v5) ?hi5 (by kernel_rfl) (by kernel_rfl) (by kernel_rfl) ?hQ5 ?hy5 (by assumption) ?hrest5
        case hi5 => (simp only [List.getElem?_toArray, List.getElem?_cons_succ, List.getElem?_cons_zero]; try rfl)
        case hQ5 => exact fun _ _ _ h => h
        case hy5 =>
          refine Or.inl ⟨by rfl, ?_⟩
          (intro wq hSw; (try dsimp only at hSw); go_simp; try with_reducible rfl)
        (try simp only [Act.put, List.setIfInBounds_toArray, List.set_cons_zero, List.set_cons_succ])
        refine wpAnyH_take (i := 5) (oi := ?oi6) (v := ?v6) ?hi6 (by kernel_rfl) (by kernel_rfl) (by kernel_rfl) ?hQ6 ?hy6 (by assumption) ?hrest6
        case hi6 => (simp only [List.getElem?_toArray, List.getElem?_cons_succ, List.getElem?_cons_zero]; try rfl)
        case hQ6 => exact fun _ _ _ h => h
        case hy6 =>
          refine Or.inl ⟨by rfl, ?_⟩
          (intro wq hSw; (try dsimp only at hSw); go_simp; try with_reducible rfl)
        (try simp only [Act.put, List.setIfInBounds_toArray, List.set_cons_zero, List.set_cons_succ])
        refine wpAnyH_take (i := 6) (oi := ?oi7) (v := ?v7) ?hi7 (by kernel_rfl) (by kernel_rfl) (by kernel_rfl) ?hQ7 ?hy7 (by assumption) ?hrest7
        case hi7 => (simp only [List.getElem?_toArray, List.getElem?_cons_succ, List.getElem?_cons_zero]; try rfl)
        case hQ7 => exact fun _ _ _ h => h
        case hy7 =>
          refine Or.inl ⟨by rfl, ?_⟩
          (intro wq hSw; (try dsimp only at hSw); go_simp; try with_reducible rfl)
        (try simp only [Act.put, List.setIfInBounds_toArray, List.set_cons_zero, List.set_cons_succ])
        refine wpAnyH_ready (rs := [7]) (by kernel_rfl) (by simp) ?_
        refine AllReadyH.cons (o := ?oi8) ?hi8 (fun K hK => ?hstep8) AllReadyH.nil
        case hi8 => (simp only [List.getElem?_toArray, List.getElem?_cons_succ, List.getElem?_cons_zero]; try rfl)
        go_simp
        (have hvb := hHeld.size; (first | refine newvar_Kd ?_ | refine newvar_K ?_); intro wx hbx nv nf nz; have n0 := nv 0 _ rfl; have n1 := nv 1 _ rfl; have n2 := nv 2 _ rfl; have f0 := nf 0; have f1 := nf 1; have f2 := nf 2; clear nv nf)
        refine hK.out _ _ ?_ (fun hHeld => ?_)
        · exact below_step hHeld hbx
        clear hK K
        (try simp only [Act.put, List.setIfInBounds_toArray, List.set_cons_zero, List.set_cons_succ])
        refine wpAnyH_ready (rs := [8]) (by kernel_rfl) (by simp) ?_
        refine AllReadyH.cons (o := ?oi9) ?hi9 (fun K hK => ?hstep9) AllReadyH.nil
        case hi9 => (simp only [List.getElem?_toArray, List.getElem?_cons_succ, List.getElem?_cons_zero]; try rfl)
        go_simp
        (obtain ⟨z0, z1, z2⟩ := set3_cells n0 n1 n2 (.int .i64 1) (.int .i64 p) (.slice none 0 0))
        refine hK.out _ _ ?_ (fun hHeld => ?_)
        · exact below_set3 hHeld hvb
        clear hK K
        (try simp only [Act.put, List.setIfInBounds_toArray, List.set_cons_zero, List.set_cons_succ])
        refine wpAnyH_take (i := 9) (oi := ?oi10) (v := ?v10) ?hi10 (by kernel_rfl) (by kernel_rfl) (by kernel_rfl) ?hQ10 ?hy10 (by assumption) ?hrest10
        case hi10 => (simp only [List.getElem?_toArray, List.getElem?_cons_succ, List.getElem?_cons_zero]; try rfl)
        case hQ10 => exact fun _ _ _ h => h
        case hy10 =>
          refine Or.inl ⟨by rfl, ?_⟩
          (intro wq hSw; (try dsimp only at hSw); go_simp; try with_reducible rfl)
        (try simp only [Act.put, List.setIfInBounds_toArray, List.set_cons_zero, List.set_cons_succ])
        refine wpAnyH_done (by kernel_rfl) ?_ _
        refine NoPanic.normal ?_
        (go_wp2_with fail; go_meet; exact ⟨_, rfl, rfl, z0, z1, z2, hHeld⟩)
      refine AllReadyH.cons (o := ?oi11) ?hi11 (fun K hK => ?hstep11) ?hmore11
      case hi11 => (simp only [List.getElem?_toArray, List.getElem?_cons_succ, List.getElem?_cons_zero]; try rfl)
      case hstep11 =>
        go_simp
        (have hvb := hHeld.size; (first | refine newvar_Kd ?_ | refine newvar_K ?_); intro wx hbx nv nf nz; have n0 := nv 0 _ rfl; have n1 := nv 1 _ rfl; have n2 := nv 2 _ rfl; have f0 := nf 0; have f1 := nf 1; have f2 := nf 2; clear nv nf)
        refine hK.out _ _ ?_ (fun hHeld => ?_)
        · exact below_step hHeld hbx
        clear hK K
        (try simp only [Act.put, List.setIfInBounds_toArray, List.set_cons_zero, List.set_cons_succ])
        refine wpAnyH_ready (rs := [3]) (by kernel_rfl) (by simp) ?_
        refine AllReadyH.cons (o := ?oi12) ?hi12 (fun K hK => ?hstep12) AllReadyH.nil
        case hi12 => (simp only [List.getElem?_toArray, List.getElem?_cons_succ, List.getElem?_cons_zero]; try rfl)
        go_simp
        (refine (K3.out _).mono ?_; rintro e wx ⟨rfl, hbx⟩; (try have n0 := cell_on hbx n0); (try have f0 := froz_on hbx nz f0); (try have n1 := cell_on hbx n1); (try have f1 := froz_on hbx nz f1); (try have n2 := cell_on hbx n2); (try have f2 := froz_on hbx nz f2); (try have nz := Nat.lt_of_lt_of_le nz hbx.size))
        refine hK.out _ _ ?_ (fun hHeld => ?_)
        · exact below_step hHeld hbx
        clear hK K
        (try simp only [Act.put, List.setIfInBounds_toArray, List.set_cons_zero, List.set_cons_succ])
        refine wpAnyH_take (i := 4) (oi := ?oi13) (v := ?v13) ?hi13 (by kernel_rfl) (by kernel_rfl) (by kernel_rfl) ?hQ13 ?hy13 (by assumption) ?hrest13
        case hi13 => (simp only [List.getElem?_toArray, List.getElem?_cons_succ, List.getElem?_cons_zero]; try rfl)
        case hQ13 => exact fun _ _ _ h => h
        case hy13 =>
          refine Or.inl ⟨by rfl, ?_⟩
          (intro wq hSw; (try dsimp only at hSw); go_simp; try with_reducible rfl)
        (try simp only [Act.put, List.setIfInBounds_toArray, List.set_cons_zero, List.set_cons_succ])
        refine wpAnyH_take (i := 5) (oi := ?oi14) (v := ?v14) ?hi14 (by kernel_rfl) (by kernel_rfl) (by kernel_rfl) ?hQ14 ?hy14 (by assumption) ?hrest14
        case hi14 => (simp only [List.getElem?_toArray, List.getElem?_cons_succ, List.getElem?_cons_zero]; try rfl)
        case hQ14 => exact fun _ _ _ h => h
        case hy14 =>
          refine Or.inl ⟨by rfl, ?_⟩
          (intro wq hSw; (try dsimp only at hSw); go_simp; try with_reducible rfl)
        (try simp only [Act.put, List.setIfInBounds_toArray, List.set_cons_zero, List.set_cons_succ])
        refine wpAnyH_take (i := 6) (oi := ?oi15) (v := ?v15) ?hi15 (by kernel_rfl) (by kernel_rfl) (by kernel_rfl) ?hQ15 ?hy15 (by assumption) ?hrest15
        case hi15 => (simp only [List.getElem?_toArray, List.getElem?_cons_succ, List.getElem?_cons_zero]; try rfl)
        case hQ15 => exact fun _ _ _ h => h
        case hy15 =>
          refine Or.inl ⟨by rfl, ?_⟩
          (intro wq hSw; (try dsimp only at hSw); go_simp; try with_reducible rfl)
        (try simp only [Act.put, List.setIfInBounds_toArray, List.set_cons_zero, List.set_cons_succ])
        refine wpAnyH_ready (rs := [8]) (by kernel_rfl) (by simp) ?_
        refine AllReadyH.cons (o := ?oi16) ?hi16 (fun K hK => ?hstep16) AllReadyH.nil
        case hi16 => (simp only [List.getElem?_toArray, List.getElem?_cons_succ, List.getElem?_cons_zero]; try rfl)
        go_simp
        (obtain ⟨z0, z1, z2⟩ := set3_cells n0 n1 n2 (.int .i64 1) (.int .i64 p) (.slice none 0 0))
        refine hK.out _ _ ?_ (fun hHeld => ?_)
        · exact below_set3 hHeld hvb
        clear hK K
        (try simp only [Act.put, List.setIfInBounds_toArray, List.set_cons_zero, List.set_cons_succ])
        refine wpAnyH_take (i := 9) (oi := ?oi17) (v := ?v17) ?hi17 (by kernel_rfl) (by kernel_rfl) (by kernel_rfl) ?hQ17 ?hy17 (by assumption) ?hrest17
        case hi17 => (simp only [List.getElem?_toArray, List.getElem?_cons_succ, List.getElem?_cons_zero]; try rfl)
        case hQ17 => exact fun _ _ _ h => h
        case hy17 =>
          refine Or.inl ⟨by rfl, ?_⟩
          (intro wq hSw; (try dsimp only at hSw); go_simp; try with_reducible rfl)
        (try simp only [Act.put, List.setIfInBounds_toArray, List.set_cons_zero, List.set_cons_succ])
        refine wpAnyH_done (by kernel_rfl) ?_ _
        refine NoPanic.normal ?_
        (go_wp2_with fail; go_meet; exact ⟨_, rfl, rfl, z0, z1, z2, hHeld⟩)
      exact AllReadyH.nil
    refine AllReadyH.cons (o := ?oi18) ?hi18 (fun K hK => ?hstep18) ?hmore18
    case hi18 => (simp only [List.getElem?_toArray, List.getElem?_cons_succ, List.getElem?_cons_zero]; try rfl)
    case hstep18 =>
      go_simp
      (have hvb := hHeld.size; (first | refine newvar_Kd ?_ | refine newvar_K ?_); intro wx hbx nv nf nz; have n0 := nv 0 _ rfl; have n1 := nv 1 _ rfl; have n2 := nv 2 _ rfl; have f0 := nf 0; have f1 := nf 1; have f2 := nf 2; clear nv nf)
      refine hK.out _ _ ?_ (fun hHeld => ?_)
      · exact below_step hHeld hbx
      clear hK K
      (try simp only [Act.put, List.setIfInBounds_toArray, List.set_cons_zero, List.set_cons_succ])
      refine wpAnyH_ready (rs := [2]) (by kernel_rfl) (by simp) ?_
      refine AllReadyH.cons (o := ?oi19) ?hi19 (fun K hK => ?hstep19) AllReadyH.nil
      case hi19 => (simp only [List.getElem?_toArray, List.getElem?_cons_succ, List.getElem?_cons_zero]; try rfl)
      go_simp
      (refine (num_any _ _).mono ?_; rintro e wx ⟨rfl, hbx⟩; (try have n0 := cell_on hbx n0); (try have f0 := froz_on hbx nz f0); (try have n1 := cell_on hbx n1); (try have f1 := froz_on hbx nz f1); (try have n2 := cell_on hbx n2); (try have f2 := froz_on hbx nz f2); (try have nz := Nat.lt_of_lt_of_le nz hbx.size))
      refine hK.out _ _ ?_ (fun hHeld => ?_)
      · exact below_step hHeld hbx
      clear hK K
      (try simp only [Act.put, List.setIfInBounds_toArray, List.set_cons_zero, List.set_cons_succ])
      refine wpAnyH_ready (rs := [3]) (by kernel_rfl) (by simp) ?_
      refine AllReadyH.cons (o := ?oi20) ?hi20 (fun K hK => ?hstep20) AllReadyH.nil
      case hi20 => (simp only [List.getElem?_toArray, List.getElem?_cons_succ, List.getElem?_cons_zero]; try rfl)
      go_simp
      (refine (K3.out _).mono ?_; rintro e wx ⟨rfl, hbx⟩; (try have n0 := cell_on hbx n0); (try have f0 := froz_on hbx nz f0); (try have n1 := cell_on hbx n1); (try have f1 := froz_on hbx nz f1); (try have n2 := cell_on hbx n2); (try have f2 := froz_on hbx nz f2); (try have nz := Nat.lt_of_lt_of_le nz hbx.size))
      refine hK.out _ _ ?_ (fun hHeld => ?_)
      · exact below_step hHeld hbx
      clear hK K
      (try simp only [Act.put, List.setIfInBounds_toArray, List.set_cons_zero, List.set_cons_succ])
      refine wpAnyH_take (i := 4) (oi := ?oi21) (v := ?v21) ?hi21 (by kernel_rfl) (by kernel_rfl) (by kernel_rfl) ?hQ21 ?hy21 (by assumption) ?hrest21
      case hi21 => (simp only [List.getElem?_toArray, List.getElem?_cons_succ, List.getElem?_cons_zero]; try rfl)
      case hQ21 => exact fun _ _ _ h => h
      case hy21 =>
        refine Or.inl ⟨by rfl, ?_⟩
        (intro wq hSw; (try dsimp only at hSw); go_simp; try with_reducible rfl)
      (try simp only [Act.put, List.setIfInBounds_toArray, List.set_cons_zero, List.set_cons_succ])
      refine wpAnyH_take (i := 5) (oi := ?oi22) (v := ?v22) ?hi22 (by kernel_rfl) (by kernel_rfl) (by kernel_rfl) ?hQ22 ?hy22 (by assumption) ?hrest22
      case hi22 => (simp only [List.getElem?_toArray, List.getElem?_cons_succ, List.getElem?_cons_zero]; try rfl)
      case hQ22 => exact fun _ _ _ h => h
      case hy22 =>
        refine Or.inl ⟨by rfl, ?_⟩
        (intro wq hSw; (try dsimp only at hSw); go_simp; try with_reducible rfl)
      (try simp only [Act.put, List.setIfInBounds_toArray, List.set_cons_zero, List.set_cons_succ])
      refine wpAnyH_take (i := 6) (oi := ?oi23) (v := ?v23) ?hi23 (by kernel_rfl) (by kernel_rfl) (by kernel_rfl) ?hQ23 ?hy23 (by assumption) ?hrest23
      case hi23 => (simp only [List.getElem?_toArray, List.getElem?_cons_succ, List.getElem?_cons_zero]; try rfl)
      case hQ23 => exact fun _ _ _ h => h
      case hy23 =>
        refine Or.inl ⟨by rfl, ?_⟩
        (intro wq hSw; (try dsimp only at hSw); go_simp; try with_reducible rfl)
      (try simp only [Act.put, List.setIfInBounds_toArray, List.set_cons_zero, List.set_cons_succ])
      refine wpAnyH_ready (rs := [8]) (by kernel_rfl) (by simp) ?_
      refine AllReadyH.cons (o := ?oi24) ?hi24 (fun K hK => ?hstep24) AllReadyH.nil
      case hi24 => (simp only [List.getElem?_toArray, List.getElem?_cons_succ, List.getElem?_cons_zero]; try rfl)
      go_simp
      (obtain ⟨z0, z1, z2⟩ := set3_cells n0 n1 n2 (.int .i64 1) (.int .i64 p) (.slice none 0 0))
      refine hK.out _ _ ?_ (fun hHeld => ?_)
      · exact below_set3 hHeld hvb
      clear hK K
      (try simp only [Act.put, List.setIfInBounds_toArray, List.set_cons_zero, List.set_cons_succ])
      refine wpAnyH_take (i := 9) (oi := ?oi25) (v := ?v25) ?hi25 (by kernel_rfl) (by kernel_rfl) (by kernel_rfl) ?hQ25 ?hy25 (by assumption) ?hrest25
      case hi25 => (simp only [List.getElem?_toArray, List.getElem?_cons_succ, List.getElem?_cons_zero]; try rfl)
      case hQ25 => exact fun _ _ _ h => h
      case hy25 =>
        refine Or.inl ⟨by rfl, ?_⟩
        (intro wq hSw; (try dsimp only at hSw); go_simp; try with_reducible rfl)
      (try simp only [Act.put, List.setIfInBounds_toArray, List.set_cons_zero, List.set_cons_succ])
      refine wpAnyH_done (by kernel_rfl) ?_ _
      refine NoPanic.normal ?_
      (go_wp2_with fail; go_meet; exact ⟨_, rfl, rfl, z0, z1, z2, hHeld⟩)
    exact AllReadyH.nil
  case rest =>
    obtain ⟨Xb, rfl, rfl, X0, X1, X2, hbx⟩ := hcut
    have S0 := cell_on hbx S0
    have S1 := cell_on hbx S1
    have S2 := cell_on hbx S2
    have D0 := cell_on hbx D0
    have D1 := cell_on hbx D1
    have D2 := cell_on hbx D2
    have bcx := below_step bva hbx
    generalize wc = wdx at S0 S1 S2 D0 D1 D2 X0 X1 X2 hbx bcx ⊢
    go_wp2_with fail
    refine (K4.out _).mono ?_
    rintro e w8 ⟨rfl, hb8⟩
    have S0 := cell_on hb8 S0
    have S1 := cell_on hb8 S1
    have S2 := cell_on hb8 S2
    have D0 := cell_on hb8 D0
    have D1 := cell_on hb8 D1
    have D2 := cell_on hb8 D2
    have X0 := cell_on hb8 X0
    have X1 := cell_on hb8 X1
    have X2 := cell_on hb8 X2
    have bb8 := below_step bcx hb8
    have D0u := fun o => cell_on (below_alloc w8 o) D0
    have D1u := fun o => cell_on (below_alloc w8 o) D1
    have D2u := fun o => cell_on (below_alloc w8 o) D2
    have hbz := below_alloc w8 (.cells #[.int .i64 1, .int .i64 a, .slice none 0 0] 26)
    rcases hf with ⟨g1, g2, g3⟩ | ⟨g1, g2, g3⟩ | ⟨g1, g2, g3⟩
    all_goals rcases hg with ⟨k1, k2, k3, k4, k5⟩ | ⟨k1, k2, k3, k4, k5⟩ | ⟨k1, k2, k3, k4, k5⟩
    all_goals
      go_wp2_with fail
      go_ret
      exact ⟨rfl, below_step bb8 hbz⟩
theorem parts_law (a b : Int) (w : World) (ha : -9223372036854775808 ≤ a ∧ a < 9223372036854775808) (hb : -9223372036854775808 ≤ b ∧ b < 9223372036854775808) :
    Calls Try.prog 4 #[.int .i64 a, .int .i64 b] w fun e w' => e = .returned (.bool true) ∧ Below w.heap.size w w' := by
  have Q := fun w => two_quo (A := none) (B := none) (n := 0) (m := 0) (c := 0) (d := 0) a b w ha hb
  have M := fun w => two_rem (A := none) (B := none) (n := 0) (m := 0) (c := 0) (d := 0) a b w ha hb
  by_cases h0 : b = 0
  · rw [quoR, if_pos h0] at Q M
    exact parts_no a b 2 w (.inl ⟨rfl, h0⟩) (hid Q) (hid M)
  · by_cases h1 : a = -9223372036854775808 ∧ b = -1
    · rw [quoR, if_neg h0, if_pos h1] at Q M
      exact parts_no a b 3 w (.inr ⟨rfl, h0⟩) (hid Q) (hid M)
    · rw [quoR, if_neg h0, if_neg h1] at Q M
      have hq := tdiv_in a b ha hb h1 h0
      have hr := tmod_in a b ha hb h1 h0
      have e1 : a.tdiv b * b + a.tmod b = a := Int.tdiv_mul_add_tmod a b
      have n1 : (a.tmod b).natAbs = a.natAbs % b.natAbs := Int.natAbs_tmod a b
      have n2 : a.natAbs % b.natAbs < b.natAbs := Nat.mod_lt _ (by omega)
      have n3 : a.natAbs % b.natAbs ≤ a.natAbs := Nat.mod_le _ _
      have sg : (0 ≤ a → 0 ≤ a.tmod b) ∧ (a < 0 → a.tmod b ≤ 0) := by
        refine ⟨fun h => Int.tmod_nonneg b h, fun h => ?_⟩
        have h2 := Int.tmod_nonneg b (a := -a) (by omega)
        rw [Int.neg_tmod] at h2
        omega
      generalize a.tdiv b = q at hq e1 Q
      generalize a.tmod b = r at hr e1 n1 sg M
      obtain ⟨s1, s2⟩ := sg
      obtain ⟨p, hp⟩ : ∃ p, q * b = p := ⟨_, rfl⟩
      rw [hp] at e1
      have hpr : -9223372036854775808 ≤ p ∧ p < 9223372036854775808 := by omega
      have T := fun w => t_star (A := none) (B := none) (n := 0) (m := 0) (c := 0) (d := 0) q b w hq hb (by rw [hp]; exact hpr)
      rw [hp] at T
      have U := fun w => t_plus (A := none) (B := none) (n := 0) (m := 0) (c := 0) (d := 0) p r w hpr hr (by omega)
      rw [e1] at U
      refine parts_ok a b q r p w ?_ ?_ (hid Q) (hid M) (hid T) (hid U)
      · by_cases hr0 : r = 0
        · exact .inl ⟨by rw [hr0]; rfl, trivial, trivial⟩
        · by_cases hr1 : r < 0
          · exact .inr (.inl ⟨beq_eq_false_iff_ne.2 hr0, hr1, by omega⟩)
          · exact .inr (.inr ⟨beq_eq_false_iff_ne.2 hr0, hr1, by omega⟩)
      · by_cases hb0 : 0 < b
        · exact .inl ⟨hb0, by omega, wrap_of _ (by omega) (by omega), by omega, trivial⟩
        · by_cases hb1 : b = -9223372036854775808
          · exact .inr (.inl ⟨hb0, by omega, by omega, by rw [hb1]; rfl, trivial⟩)
          · exact .inr (.inr ⟨hb0, by omega, by omega, beq_eq_false_iff_ne.2 hb1, wrap_of _ (by omega) (by omega), by omega⟩)
end Go.Proofs.Yteioiebkielaeaa
