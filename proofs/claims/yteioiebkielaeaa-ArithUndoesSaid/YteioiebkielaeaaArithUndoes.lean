import Derived.Test.YteioiebkielaeaaArithK
namespace Go.Proofs.Yteioiebkielaeaa
open Go.RowKit Go.Cov Go.Lib
set_option maxRecDepth 100000 in
set_option maxHeartbeats 3200000 in
theorem undoes_11 (a b s d : Int) (w : World) (K1 : Hid (∀ w, Calls Try.prog 10 #[.string ⟨#[43]⟩, .agg #[.int .i64 1, .int .i64 a, .slice none 0 0], .agg #[.int .i64 1, .int .i64 b, .slice none 0 0]] w fun e w' => e = .returned (.tuple #[.agg #[.int .i64 1, .int .i64 s, .slice none 0 0], .int .i64 0]) ∧ Below w.heap.size w w')) (K2 : Hid (∀ w, Calls Try.prog 10 #[.string ⟨#[45]⟩, .agg #[.int .i64 1, .int .i64 a, .slice none 0 0], .agg #[.int .i64 1, .int .i64 b, .slice none 0 0]] w fun e w' => e = .returned (.tuple #[.agg #[.int .i64 1, .int .i64 d, .slice none 0 0], .int .i64 0]) ∧ Below w.heap.size w w')) (K5 : Hid (∀ w, Calls Try.prog 10 #[.string ⟨#[43]⟩, .agg #[.int .i64 1, .int .i64 b, .slice none 0 0], .agg #[.int .i64 1, .int .i64 a, .slice none 0 0]] w fun e w' => e = .returned (.tuple #[.agg #[.int .i64 1, .int .i64 s, .slice none 0 0], .int .i64 0]) ∧ Below w.heap.size w w')) (K3 : Hid (∀ w, Calls Try.prog 10 #[.string ⟨#[45]⟩, .agg #[.int .i64 1, .int .i64 s, .slice none 0 0], .agg #[.int .i64 1, .int .i64 b, .slice none 0 0]] w fun e w' => e = .returned (.tuple #[.agg #[.int .i64 1, .int .i64 a, .slice none 0 0], .int .i64 0]) ∧ Below w.heap.size w w')) (K4 : Hid (∀ w, Calls Try.prog 10 #[.string ⟨#[43]⟩, .agg #[.int .i64 1, .int .i64 d, .slice none 0 0], .agg #[.int .i64 1, .int .i64 b, .slice none 0 0]] w fun e w' => e = .returned (.tuple #[.agg #[.int .i64 1, .int .i64 a, .slice none 0 0], .int .i64 0]) ∧ Below w.heap.size w w')) :
    Calls Try.prog 3 #[.int .i64 a, .int .i64 b] w fun e w' => e = .returned (.bool true) ∧ Below w.heap.size w w' := by
  go_enter Try.func3, Try.ntmps3
  go_wp2_with fail
  refine (head_any _).mono ?_
  rintro e w1 ⟨rfl, hb1⟩
  have bb1 := hb1
  go_wp2_with fail
  refine (num_any _ _).mono ?_
  rintro e w2 ⟨rfl, hb2⟩
  have bb2 := below_step bb1 hb2
  go_wp2_with fail
  refine (num_any _ _).mono ?_
  rintro e w3 ⟨rfl, hb3⟩
  have bb3 := below_step bb2 hb3
  go_wp2_with fail
  refine (K1.out _).mono ?_
  rintro e w4 ⟨rfl, hb4⟩
  have bb4 := below_step bb3 hb4
  go_wp2_with fail
  refine (num_any _ _).mono ?_
  rintro e w5 ⟨rfl, hb5⟩
  have S0 := var_on hb5 0 _ rfl
  have S1 := var_on hb5 1 _ rfl
  have S2 := var_on hb5 2 _ rfl
  have bb5 := below_step (below_step bb4 (below_alloc _ _)) hb5
  go_wp2_with fail
  refine (num_any _ _).mono ?_
  rintro e w6 ⟨rfl, hb6⟩
  have S0 := cell_on hb6 S0
  have S1 := cell_on hb6 S1
  have S2 := cell_on hb6 S2
  have bb6 := below_step bb5 hb6
  go_wp2_with fail
  refine (K2.out _).mono ?_
  rintro e w7 ⟨rfl, hb7⟩
  have S0 := cell_on hb7 S0
  have S1 := cell_on hb7 S1
  have S2 := cell_on hb7 S2
  have bb7 := below_step bb6 hb7
  go_upto_region 5 with fail
  obtain ⟨va, hva⟩ : ∃ va, w7.alloc (.cells #[.int .i64 1, .int .i64 d, .slice none 0 0] 26) = va := ⟨_, rfl⟩
  have S0 := cell_on (below_alloc w7 (.cells #[.int .i64 1, .int .i64 d, .slice none 0 0] 26)) S0
  have S1 := cell_on (below_alloc w7 (.cells #[.int .i64 1, .int .i64 d, .slice none 0 0] 26)) S1
  have S2 := cell_on (below_alloc w7 (.cells #[.int .i64 1, .int .i64 d, .slice none 0 0] 26)) S2
  have D0 := box_cell w7 #[.int .i64 1, .int .i64 d, .slice none 0 0] 26 0 _ rfl
  have D1 := box_cell w7 #[.int .i64 1, .int .i64 d, .slice none 0 0] 26 1 _ rfl
  have D2 := box_cell w7 #[.int .i64 1, .int .i64 d, .slice none 0 0] 26 2 _ rfl
  have bva := below_step bb7 (below_alloc w7 (.cells #[.int .i64 1, .int .i64 d, .slice none 0 0] 26))
  have zva : w7.heap.size < (w7.alloc (.cells #[.int .i64 1, .int .i64 d, .slice none 0 0] 26)).heap.size := by simp
  rw [hva] at S0 S1 S2 D0 D1 D2 bva zva ⊢
  clear hva
  go_cut [10, 11] (fun s10 s11 wx => ∃ b, s10 = .pointer (some ⟨b, 0, none⟩) ∧ s11 = .int .i64 0 ∧ wx.cell? ⟨b, 0, none⟩ = some (.int .i64 1) ∧ wx.cell? ⟨b, 1, none⟩ = some (.int .i64 a) ∧ wx.cell? ⟨b, 2, none⟩ = some (.slice none 0 0) ∧ Below va.heap.size va wx)
  case first =>
    have S0q := fun W (hW : Below va.heap.size va W) => cell_on hW S0
    have S1q := fun W (hW : Below va.heap.size va W) => cell_on hW S1
    have S2q := fun W (hW : Below va.heap.size va W) => cell_on hW S2
    have D0q := fun W (hW : Below va.heap.size va W) => cell_on hW D0
    have D1q := fun W (hW : Below va.heap.size va W) => cell_on hW D1
    have D2q := fun W (hW : Below va.heap.size va W) => cell_on hW D2
    refine wp_region_noPanic ?_
    refine wp_region_held_drew (S := (fun W => Below va.heap.size va W)) (by kernel_rfl) ?_ (fun hHeld => ?_)
    · exact (Below.refl _ _).drew
    refine wpAnyH_take (i := 0) (oi := ?oi1) (v := ?v1) ?hi1 (by kernel_rfl) (by kernel_rfl) (by kernel_rfl) ?hQ1 ?hy1 (by assumption) ?hrest1
    case hi1 => (simp only [List.getElem?_toArray, List.getElem?_cons_zero]; try rfl)
    case hQ1 => exact fun _ _ _ h => h
    case hy1 =>
      refine Or.inl ⟨by rfl, ?_⟩
      (intro wq hSw; (try dsimp only at hSw); go_simp; try with_reducible rfl)
    (try simp only [Act.put, List.setIfInBounds_toArray, List.set_cons_zero, List.set_cons_succ])
    refine wpAnyH_take (i := 1) (oi := ?oi2) (v := ?v2) ?hi2 (by kernel_rfl) (by kernel_rfl) (by kernel_rfl) ?hQ2 ?hy2 (by assumption) ?hrest2
    case hi2 => (simp only [List.getElem?_toArray, List.getElem?_cons_succ, List.getElem?_cons_zero]; try rfl)
    case hQ2 => exact fun _ _ _ h => h
    case hy2 =>
      refine Or.inl ⟨by rfl, ?_⟩
      (intro wq hSw; (try dsimp only at hSw); go_simp; try with_reducible rfl)
    (try simp only [Act.put, List.setIfInBounds_toArray, List.set_cons_zero, List.set_cons_succ])
    refine wpAnyH_ready (rs := [2, 7]) (by kernel_rfl) (by simp) ?_
    refine AllReadyH.cons (o := ?oi3) ?hi3 (fun K hK => ?hstep3) ?hmore3
    case hi3 => (simp only [List.getElem?_toArray, List.getElem?_cons_succ, List.getElem?_cons_zero]; try rfl)
    case hstep3 =>
      go_simp
      (refine (num_any _ _).mono ?_; rintro e wx ⟨rfl, hbx⟩; (try have n0 := cell_on hbx n0); (try have f0 := froz_on hbx nz f0); (try have n1 := cell_on hbx n1); (try have f1 := froz_on hbx nz f1); (try have n2 := cell_on hbx n2); (try have f2 := froz_on hbx nz f2); (try have nz := Nat.lt_of_lt_of_le nz hbx.size))
      refine hK.out _ _ ?_ (fun hHeld => ?_)
      · exact below_step hHeld hbx
      clear hK K
      (try simp only [Act.put, List.setIfInBounds_toArray, List.set_cons_zero, List.set_cons_succ])
      refine wpAnyH_ready (rs := [3, 7]) (by kernel_rfl) (by simp) ?_
      refine AllReadyH.cons (o := ?oi4) ?hi4 (fun K hK => ?hstep4) ?hmore4
      case hi4 => (simp only [List.getElem?_toArray, List.getElem?_cons_succ, List.getElem?_cons_zero]; try rfl)
      case hstep4 =>
        go_simp
        (refine (K3.out _).mono ?_; rintro e wx ⟨rfl, hbx⟩; (try have n0 := cell_on hbx n0); (try have f0 := froz_on hbx nz f0); (try have n1 := cell_on hbx n1); (try have f1 := froz_on hbx nz f1); (try have n2 := cell_on hbx n2); (try have f2 := froz_on hbx nz f2); (try have nz := Nat.lt_of_lt_of_le nz hbx.size))
        refine hK.out _ _ ?_ (fun hHeld => ?_)
        · exact below_step hHeld hbx
        clear hK K
        (try simp only [Act.put, List.setIfInBounds_toArray, List.set_cons_zero, List.set_cons_succ])
        refine wpAnyH_take (i := 4) (oi := ?oi5) (v := ?v5) ?hi5 (by kernel_rfl) (by kernel_rfl) (by kernel_rfl) ?hQ5 ?hy5 (by assumption) ?hrest5
        case hi5 => (simp only [List.getElem?_toArray, List.getElem?_cons_succ, List.getElem?_cons_zero]; try rfl)
        case hQ5 => exact fun _ _ _ h => h
        case hy5 =>
          refine Or.inl ⟨by rfl, ?_⟩
          (intro wq hSw; (try dsimp only at hSw); go_simp; try with_reducible rfl)
        (try simp only [Act.put, List.setIfInBounds_toArray, List.set_cons_zero, List.set_cons_succ])
        refine wpAnyH_take (i := 5) (oi := ?oi6) (v := ?v6) ?hi6 (by kernel_rfl) (by kernel_rfl) (by kernel_rfl) ?hQ6 ?hy6 (by assumption) ?hrest6
        case hi6 => (simp only [List.getElem?_toArray, List.getElem?_cons_succ, List.getElem?_cons_zero]; try rfl)
        case hQ6 => exact fun _ _ _ h => h
        case hy6 =>
          refine Or.inl ⟨by rfl, ?_⟩
          (intro wq hSw; (try dsimp only at hSw); go_simp; try with_reducible rfl)
        (try simp only [Act.put, List.setIfInBounds_toArray, List.set_cons_zero, List.set_cons_succ])
        refine wpAnyH_take (i := 6) (oi := ?oi7) (v := ?v7) ?hi7 (by kernel_rfl) (by kernel_rfl) (by kernel_rfl) ?hQ7 ?hy7 (by assumption) ?hrest7
        case hi7 => (simp only [List.getElem?_toArray, List.getElem?_cons_succ, List.getElem?_cons_zero]; try rfl)
        case hQ7 => exact fun _ _ _ h => h
        case hy7 =>
          refine Or.inl ⟨by rfl, ?_⟩
          (intro wq hSw; (try dsimp only at hSw); go_simp; try with_reducible rfl)
        (try simp only [Act.put, List.setIfInBounds_toArray, List.set_cons_zero, List.set_cons_succ])
        refine wpAnyH_ready (rs := [7]) (by kernel_rfl) (by simp) ?_
        refine AllReadyH.cons (o := ?oi8) ?hi8 (fun K hK => ?hstep8) AllReadyH.nil
        case hi8 => (simp only [List.getElem?_toArray, List.getElem?_cons_succ, List.getElem?_cons_zero]; try rfl)
        go_simp
        (have hvb := hHeld.size; (first | refine newvar_Kd ?_ | refine newvar_K ?_); intro wx hbx nv nf nz; have n0 := nv 0 _ rfl; have n1 := nv 1 _ rfl; have n2 := nv 2 _ rfl; have f0 := nf 0; have f1 := nf 1; have f2 := nf 2; clear nv nf)
        refine hK.out _ _ ?_ (fun hHeld => ?_)
        · exact below_step hHeld hbx
        clear hK K
        (try simp only [Act.put, List.setIfInBounds_toArray, List.set_cons_zero, List.set_cons_succ])
        refine wpAnyH_ready (rs := [8]) (by kernel_rfl) (by simp) ?_
        refine AllReadyH.cons (o := ?oi9) ?hi9 (fun K hK => ?hstep9) AllReadyH.nil
        case hi9 => (simp only [List.getElem?_toArray, List.getElem?_cons_succ, List.getElem?_cons_zero]; try rfl)
        go_simp
        (obtain ⟨z0, z1, z2⟩ := set3_cells n0 n1 n2 (.int .i64 1) (.int .i64 a) (.slice none 0 0))
        refine hK.out _ _ ?_ (fun hHeld => ?_)
        · exact below_set3 hHeld hvb
        clear hK K
        (try simp only [Act.put, List.setIfInBounds_toArray, List.set_cons_zero, List.set_cons_succ])
        refine wpAnyH_take (i := 9) (oi := ?oi10) (v := ?v10) ?hi10 (by kernel_rfl) (by kernel_rfl) (by kernel_rfl) ?hQ10 ?hy10 (by assumption) ?hrest10
        case hi10 => (simp only [List.getElem?_toArray, List.getElem?_cons_succ, List.getElem?_cons_zero]; try rfl)
        case hQ10 => exact fun _ _ _ h => h
        case hy10 =>
          refine Or.inl ⟨by rfl, ?_⟩
          (intro wq hSw; (try dsimp only at hSw); go_simp; try with_reducible rfl)
        (try simp only [Act.put, List.setIfInBounds_toArray, List.set_cons_zero, List.set_cons_succ])
        refine wpAnyH_done (by kernel_rfl) ?_ _
        refine NoPanic.normal ?_
        (go_wp2_with fail; go_meet; exact ⟨_, rfl, rfl, z0, z1, z2, hHeld⟩)
      refine AllReadyH.cons (o := ?oi11) ?hi11 (fun K hK => ?hstep11) ?hmore11
      case hi11 => (simp only [List.getElem?_toArray, List.getElem?_cons_succ, List.getElem?_cons_zero]; try rfl)
      case hstep11 =>
        go_simp
        (have hvb := hHeld.size; (first | refine newvar_Kd ?_ | refine newvar_K ?_); intro wx hbx nv nf nz; have n0 := nv 0 _ rfl; have n1 := nv 1 _ rfl; have n2 := nv 2 _ rfl; have f0 := nf 0; have f1 := nf 1; have f2 := nf 2; clear nv nf)
        refine hK.out _ _ ?_ (fun hHeld => ?_)
        · exact below_step hHeld hbx
        clear hK K
        (try simp only [Act.put, List.setIfInBounds_toArray, List.set_cons_zero, List.set_cons_succ])
        refine wpAnyH_ready (rs := [3]) (by kernel_rfl) (by simp) ?_
        refine AllReadyH.cons (o := ?oi12) ?hi12 (fun K hK => ?hstep12) AllReadyH.nil
        case hi12 => (simp only [List.getElem?_toArray, List.getElem?_cons_succ, List.getElem?_cons_zero]; try rfl)
        go_simp
        (refine (K3.out _).mono ?_; rintro e wx ⟨rfl, hbx⟩; (try have n0 := cell_on hbx n0); (try have f0 := froz_on hbx nz f0); (try have n1 := cell_on hbx n1); (try have f1 := froz_on hbx nz f1); (try have n2 := cell_on hbx n2); (try have f2 := froz_on hbx nz f2); (try have nz := Nat.lt_of_lt_of_le nz hbx.size))
        refine hK.out _ _ ?_ (fun hHeld => ?_)
        · exact below_step hHeld hbx
        clear hK K
        (try simp only [Act.put, List.setIfInBounds_toArray, List.set_cons_zero, List.set_cons_succ])
        refine wpAnyH_take (i := 4) (oi := ?oi13) (v := ?v13) ?hi13 (by kernel_rfl) (by kernel_rfl) (by kernel_rfl) ?hQ13 ?hy13 (by assumption) ?hrest13
        case hi13 => (simp only [List.getElem?_toArray, List.getElem?_cons_succ, List.getElem?_cons_zero]; try rfl)
        case hQ13 => exact fun _ _ _ h => h
        case hy13 =>
          refine Or.inl ⟨by rfl, ?_⟩
          (intro wq hSw; (try dsimp only at hSw); go_simp; try with_reducible rfl)
        (try simp only [Act.put, List.setIfInBounds_toArray, List.set_cons_zero, List.set_cons_succ])
        refine wpAnyH_take (i := 5) (oi := ?oi14) (v := ?v14) ?hi14 (by kernel_rfl) (by kernel_rfl) (by kernel_rfl) ?hQ14 ?hy14 (by assumption) ?hrest14
        case hi14 => (simp only [List.getElem?_toArray, List.getElem?_cons_succ, List.getElem?_cons_zero]; try rfl)
        case hQ14 => exact fun _ _ _ h => h
        case hy14 =>
          refine Or.inl ⟨by rfl, ?_⟩
          (intro wq hSw; (try dsimp only at hSw); go_simp; try with_reducible rfl)
        (try simp only [Act.put, List.setIfInBounds_toArray, List.set_cons_zero, List.set_cons_succ])
        refine wpAnyH_take (i := 6) (oi := ?oi15) (v := ?v15) ?hi15 (by kernel_rfl) (by kernel_rfl) (by kernel_rfl) ?hQ15 ?hy15 (by assumption) ?hrest15
        case hi15 => (simp only [List.getElem?_toArray, List.getElem?_cons_succ, List.getElem?_cons_zero]; try rfl)
        case hQ15 => exact fun _ _ _ h => h
        case hy15 =>
          refine Or.inl ⟨by rfl, ?_⟩
          (intro wq hSw; (try dsimp only at hSw); go_simp; try with_reducible rfl)
        (try simp only [Act.put, List.setIfInBounds_toArray, List.set_cons_zero, List.set_cons_succ])
        refine wpAnyH_ready (rs := [8]) (by kernel_rfl) (by simp) ?_
        refine AllReadyH.cons (o := ?oi16) ?hi16 (fun K hK => ?hstep16) AllReadyH.nil
        case hi16 => (simp only [List.getElem?_toArray, List.getElem?_cons_succ, List.getElem?_cons_zero]; try rfl)
        go_simp
        (obtain ⟨z0, z1, z2⟩ := set3_cells n0 n1 n2 (.int .i64 1) (.int .i64 a) (.slice none 0 0))
        refine hK.out _ _ ?_ (fun hHeld => ?_)
        · exact below_set3 hHeld hvb
        clear hK K
        (try simp only [Act.put, List.setIfInBounds_toArray, List.set_cons_zero, List.set_cons_succ])
        refine wpAnyH_take (i := 9) (oi := ?oi17) (v := ?v17) ?hi17 (by kernel_rfl) (by kernel_rfl) (by kernel_rfl) ?hQ17 ?hy17 (by assumption) ?hrest17
        case hi17 => (simp only [List.getElem?_toArray, List.getElem?_cons_succ, List.getElem?_cons_zero]; try rfl)
        case hQ17 => exact fun _ _ _ h => h
        case hy17 =>
          refine Or.inl ⟨by rfl, ?_⟩
          (intro wq hSw; (try dsimp only at hSw); go_simp; try with_reducible rfl)
        (try simp only [Act.put, List.setIfInBounds_toArray, List.set_cons_zero, List.set_cons_succ])
        refine wpAnyH_done (by kernel_rfl) ?_ _
        refine NoPanic.normal ?_
        (go_wp2_with fail; go_meet; exact ⟨_, rfl, rfl, z0, z1, z2, hHeld⟩)
      exact AllReadyH.nil
    refine AllReadyH.cons (o := ?oi18) ?hi18 (fun K hK => ?hstep18) ?hmore18
    case hi18 => (simp only [List.getElem?_toArray, List.getElem?_cons_succ, List.getElem?_cons_zero]; try rfl)
    case hstep18 =>
      go_simp
      (have hvb := hHeld.size; (first | refine newvar_Kd ?_ | refine newvar_K ?_); intro wx hbx nv nf nz; have n0 := nv 0 _ rfl; have n1 := nv 1 _ rfl; have n2 := nv 2 _ rfl; have f0 := nf 0; have f1 := nf 1; have f2 := nf 2; clear nv nf)
      refine hK.out _ _ ?_ (fun hHeld => ?_)
      · exact below_step hHeld hbx
      clear hK K
      (try simp only [Act.put, List.setIfInBounds_toArray, List.set_cons_zero, List.set_cons_succ])
      refine wpAnyH_ready (rs := [2]) (by kernel_rfl) (by simp) ?_
      refine AllReadyH.cons (o := ?oi19) ?hi19 (fun K hK => ?hstep19) AllReadyH.nil
      case hi19 => (simp only [List.getElem?_toArray, List.getElem?_cons_succ, List.getElem?_cons_zero]; try rfl)
      go_simp
      (refine (num_any _ _).mono ?_; rintro e wx ⟨rfl, hbx⟩; (try have n0 := cell_on hbx n0); (try have f0 := froz_on hbx nz f0); (try have n1 := cell_on hbx n1); (try have f1 := froz_on hbx nz f1); (try have n2 := cell_on hbx n2); (try have f2 := froz_on hbx nz f2); (try have nz := Nat.lt_of_lt_of_le nz hbx.size))
      refine hK.out _ _ ?_ (fun hHeld => ?_)
      · exact below_step hHeld hbx
      clear hK K
      (try simp only [Act.put, List.setIfInBounds_toArray, List.set_cons_zero, List.set_cons_succ])
      refine wpAnyH_ready (rs := [3]) (by kernel_rfl) (by simp) ?_
      refine AllReadyH.cons (o := ?oi20) ?hi20 (fun K hK => ?hstep20) AllReadyH.nil
      case hi20 => (simp only [List.getElem?_toArray, List.getElem?_cons_succ, List.getElem?_cons_zero]; try rfl)
      go_simp
      (refine (K3.out _).mono ?_; rintro e wx ⟨rfl, hbx⟩; (try have n0 := cell_on hbx n0); (try have f0 := froz_on hbx nz f0); (try have n1 := cell_on hbx n1); (try have f1 := froz_on hbx nz f1); (try have n2 := cell_on hbx n2); (try have f2 := froz_on hbx nz f2); (try have nz := Nat.lt_of_lt_of_le nz hbx.size))
      refine hK.out _ _ ?_ (fun hHeld => ?_)
      · exact below_step hHeld hbx
      clear hK K
      (try simp only [Act.put, List.setIfInBounds_toArray, List.set_cons_zero, List.set_cons_succ])
      refine wpAnyH_take (i := 4) (oi := ?oi21) (v := ?v21) ?hi21 (by kernel_rfl) (by kernel_rfl) (by kernel_rfl) ?hQ21 ?hy21 (by assumption) ?hrest21
      case hi21 => (simp only [List.getElem?_toArray, List.getElem?_cons_succ, List.getElem?_cons_zero]; try rfl)
      case hQ21 => exact fun _ _ _ h => h
      case hy21 =>
        refine Or.inl ⟨by rfl, ?_⟩
        (intro wq hSw; (try dsimp only at hSw); go_simp; try with_reducible rfl)
      (try simp only [Act.put, List.setIfInBounds_toArray, List.set_cons_zero, List.set_cons_succ])
      refine wpAnyH_take (i := 5) (oi := ?oi22) (v := ?v22) ?hi22 (by kernel_rfl) (by kernel_rfl) (by kernel_rfl) ?hQ22 ?hy22 (by assumption) ?hrest22
      case hi22 => (simp only [List.getElem?_toArray, List.getElem?_cons_succ, List.getElem?_cons_zero]; try rfl)
      case hQ22 => exact fun _ _ _ h => h
      case hy22 =>
        refine Or.inl ⟨by rfl, ?_⟩
        (intro wq hSw; (try dsimp only at hSw); go_simp; try with_reducible rfl)
      (try simp only [Act.put, List.setIfInBounds_toArray, List.set_cons_zero, List.set_cons_succ])
      refine wpAnyH_take (i := 6) (oi := ?oi23) (v := ?v23) ?hi23 (by kernel_rfl) (by kernel_rfl) (by kernel_rfl) ?hQ23 ?hy23 (by assumption) ?hrest23
      case hi23 => (simp only [List.getElem?_toArray, List.getElem?_cons_succ, List.getElem?_cons_zero]; try rfl)
      case hQ23 => exact fun _ _ _ h => h
      case hy23 =>
        refine Or.inl ⟨by rfl, ?_⟩
        (intro wq hSw; (try dsimp only at hSw); go_simp; try with_reducible rfl)
      (try simp only [Act.put, List.setIfInBounds_toArray, List.set_cons_zero, List.set_cons_succ])
      refine wpAnyH_ready (rs := [8]) (by kernel_rfl) (by simp) ?_
      refine AllReadyH.cons (o := ?oi24) ?hi24 (fun K hK => ?hstep24) AllReadyH.nil
      case hi24 => (simp only [List.getElem?_toArray, List.getElem?_cons_succ, List.getElem?_cons_zero]; try rfl)
      go_simp
      (obtain ⟨z0, z1, z2⟩ := set3_cells n0 n1 n2 (.int .i64 1) (.int .i64 a) (.slice none 0 0))
      refine hK.out _ _ ?_ (fun hHeld => ?_)
      · exact below_set3 hHeld hvb
      clear hK K
      (try simp only [Act.put, List.setIfInBounds_toArray, List.set_cons_zero, List.set_cons_succ])
      refine wpAnyH_take (i := 9) (oi := ?oi25) (v := ?v25) ?hi25 (by kernel_rfl) (by kernel_rfl) (by kernel_rfl) ?hQ25 ?hy25 (by assumption) ?hrest25
      case hi25 => (simp only [List.getElem?_toArray, List.getElem?_cons_succ, List.getElem?_cons_zero]; try rfl)
      case hQ25 => exact fun _ _ _ h => h
      case hy25 =>
        refine Or.inl ⟨by rfl, ?_⟩
        (intro wq hSw; (try dsimp only at hSw); go_simp; try with_reducible rfl)
      (try simp only [Act.put, List.setIfInBounds_toArray, List.set_cons_zero, List.set_cons_succ])
      refine wpAnyH_done (by kernel_rfl) ?_ _
      refine NoPanic.normal ?_
      (go_wp2_with fail; go_meet; exact ⟨_, rfl, rfl, z0, z1, z2, hHeld⟩)
    exact AllReadyH.nil
  case rest =>
    obtain ⟨Xb, rfl, rfl, X0, X1, X2, hbx⟩ := hcut
    have S0 := cell_on hbx S0
    have S1 := cell_on hbx S1
    have S2 := cell_on hbx S2
    have D0 := cell_on hbx D0
    have D1 := cell_on hbx D1
    have D2 := cell_on hbx D2
    have bcx := below_step bva hbx
    generalize wc = wdx at S0 S1 S2 D0 D1 D2 X0 X1 X2 hbx bcx ⊢
    go_upto_region 9 with fail
    go_cut [12, 13] (fun s12 s13 wx => ∃ b, s12 = .pointer (some ⟨b, 0, none⟩) ∧ s13 = .int .i64 0 ∧ wx.cell? ⟨b, 0, none⟩ = some (.int .i64 1) ∧ wx.cell? ⟨b, 1, none⟩ = some (.int .i64 a) ∧ wx.cell? ⟨b, 2, none⟩ = some (.slice none 0 0) ∧ Below wdx.heap.size wdx wx)
    case first =>
      have S0q := fun W (hW : Below wdx.heap.size wdx W) => cell_on hW S0
      have S1q := fun W (hW : Below wdx.heap.size wdx W) => cell_on hW S1
      have S2q := fun W (hW : Below wdx.heap.size wdx W) => cell_on hW S2
      have D0q := fun W (hW : Below wdx.heap.size wdx W) => cell_on hW D0
      have D1q := fun W (hW : Below wdx.heap.size wdx W) => cell_on hW D1
      have D2q := fun W (hW : Below wdx.heap.size wdx W) => cell_on hW D2
      have X0q := fun W (hW : Below wdx.heap.size wdx W) => cell_on hW X0
      have X1q := fun W (hW : Below wdx.heap.size wdx W) => cell_on hW X1
      have X2q := fun W (hW : Below wdx.heap.size wdx W) => cell_on hW X2
      refine wp_region_noPanic ?_
      refine wp_region_held_drew (S := (fun W => Below wdx.heap.size wdx W)) (by kernel_rfl) ?_ (fun hHeld => ?_)
      · exact (Below.refl _ _).drew
      refine wpAnyH_take (i := 0) (oi := ?oi26) (v := ?v26) ?hi26 (by kernel_rfl) (by kernel_rfl) (by kernel_rfl) ?hQ26 ?hy26 (by assumption) ?hrest26
      case hi26 => (simp only [List.getElem?_toArray, List.getElem?_cons_zero]; try rfl)
      case hQ26 => exact fun _ _ _ h => h
      case hy26 =>
        refine Or.inl ⟨by rfl, ?_⟩
        (intro wq hSw; (try dsimp only at hSw); go_simp; try with_reducible rfl)
      (try simp only [Act.put, List.setIfInBounds_toArray, List.set_cons_zero, List.set_cons_succ])
      refine wpAnyH_take (i := 1) (oi := ?oi27) (v := ?v27) ?hi27 (by kernel_rfl) (by kernel_rfl) (by kernel_rfl) ?hQ27 ?hy27 (by assumption) ?hrest27
      case hi27 => (simp only [List.getElem?_toArray, List.getElem?_cons_succ, List.getElem?_cons_zero]; try rfl)
      case hQ27 => exact fun _ _ _ h => h
      case hy27 =>
        refine Or.inl ⟨by rfl, ?_⟩
        (intro wq hSw; (try dsimp only at hSw); go_simp; try with_reducible rfl)
      (try simp only [Act.put, List.setIfInBounds_toArray, List.set_cons_zero, List.set_cons_succ])
      refine wpAnyH_ready (rs := [2, 7]) (by kernel_rfl) (by simp) ?_
      refine AllReadyH.cons (o := ?oi28) ?hi28 (fun K hK => ?hstep28) ?hmore28
      case hi28 => (simp only [List.getElem?_toArray, List.getElem?_cons_succ, List.getElem?_cons_zero]; try rfl)
      case hstep28 =>
        go_simp
        (refine (num_any _ _).mono ?_; rintro e wx ⟨rfl, hbx⟩; (try have n0 := cell_on hbx n0); (try have f0 := froz_on hbx nz f0); (try have n1 := cell_on hbx n1); (try have f1 := froz_on hbx nz f1); (try have n2 := cell_on hbx n2); (try have f2 := froz_on hbx nz f2); (try have nz := Nat.lt_of_lt_of_le nz hbx.size))
        refine hK.out _ _ ?_ (fun hHeld => ?_)
        · exact below_step hHeld hbx
        clear hK K
        (try simp only [Act.put, List.setIfInBounds_toArray, List.set_cons_zero, List.set_cons_succ])
        refine wpAnyH_ready (rs := [3, 7]) (by kernel_rfl) (by simp) ?_
        refine AllReadyH.cons (o := ?oi29) ?hi29 (fun K hK => ?hstep29) ?hmore29
        case hi29 => (simp only [List.getElem?_toArray, List.getElem?_cons_succ, List.getElem?_cons_zero]; try rfl)
        case hstep29 =>
          go_simp
          (refine (K4.out _).mono ?_; rintro e wx ⟨rfl, hbx⟩; (try have n0 := cell_on hbx n0); (try have f0 := froz_on hbx nz f0); (try have n1 := cell_on hbx n1); (try have f1 := froz_on hbx nz f1); (try have n2 := cell_on hbx n2); (try have f2 := froz_on hbx nz f2); (try have nz := Nat.lt_of_lt_of_le nz hbx.size))
          refine hK.out _ _ ?_ (fun hHeld => ?_)
          · exact below_step hHeld hbx
          clear hK K
          (try simp only [Act.put, List.setIfInBounds_toArray, List.set_cons_zero, List.set_cons_succ])
          refine wpAnyH_take (i := 4) (oi := ?oi30) (v := ?v30) ?hi30 (by kernel_rfl) (by kernel_rfl) (by kernel_rfl) ?hQ30 ?hy30 (by assumption) ?hrest30
          case hi30 => (simp only [List.getElem?_toArray, List.getElem?_cons_succ, List.getElem?_cons_zero]; try rfl)
          case hQ30 => exact fun _ _ _ h => h
          case hy30 =>
            refine Or.inl ⟨by rfl, ?_⟩
            (intro wq hSw; (try dsimp only at hSw); go_simp; try with_reducible rfl)
          (try simp only [Act.put, List.setIfInBounds_toArray, List.set_cons_zero, List.set_cons_succ])
          refine wpAnyH_take (i := 5) (oi := ?oi31) (v := ?v31) ?hi31 (by kernel_rfl) (by kernel_rfl) (by kernel_rfl) ?hQ31 ?hy31 (by assumption) ?hrest31
          case hi31 => (simp only [List.getElem?_toArray, List.getElem?_cons_succ, List.getElem?_cons_zero]; try rfl)
          case hQ31 => exact fun _ _ _ h => h
          case hy31 =>
            refine Or.inl ⟨by rfl, ?_⟩
            (intro wq hSw; (try dsimp only at hSw); go_simp; try with_reducible rfl)
          (try simp only [Act.put, List.setIfInBounds_toArray, List.set_cons_zero, List.set_cons_succ])
          refine wpAnyH_take (i := 6) (oi := ?oi32) (v := ?v32) ?hi32 (by kernel_rfl) (by kernel_rfl) (by kernel_rfl) ?hQ32 ?hy32 (by assumption) ?hrest32
          case hi32 => (simp only [List.getElem?_toArray, List.getElem?_cons_succ, List.getElem?_cons_zero]; try rfl)
          case hQ32 => exact fun _ _ _ h => h
          case hy32 =>
            refine Or.inl ⟨by rfl, ?_⟩
            (intro wq hSw; (try dsimp only at hSw); go_simp; try with_reducible rfl)
          (try simp only [Act.put, List.setIfInBounds_toArray, List.set_cons_zero, List.set_cons_succ])
          refine wpAnyH_ready (rs := [7]) (by kernel_rfl) (by simp) ?_
          refine AllReadyH.cons (o := ?oi33) ?hi33 (fun K hK => ?hstep33) AllReadyH.nil
          case hi33 => (simp only [List.getElem?_toArray, List.getElem?_cons_succ, List.getElem?_cons_zero]; try rfl)
          go_simp
          (have hvb := hHeld.size; (first | refine newvar_Kd ?_ | refine newvar_K ?_); intro wx hbx nv nf nz; have n0 := nv 0 _ rfl; have n1 := nv 1 _ rfl; have n2 := nv 2 _ rfl; have f0 := nf 0; have f1 := nf 1; have f2 := nf 2; clear nv nf)
          refine hK.out _ _ ?_ (fun hHeld => ?_)
          · exact below_step hHeld hbx
          clear hK K
          (try simp only [Act.put, List.setIfInBounds_toArray, List.set_cons_zero, List.set_cons_succ])
          refine wpAnyH_ready (rs := [8]) (by kernel_rfl) (by simp) ?_
          refine AllReadyH.cons (o := ?oi34) ?hi34 (fun K hK => ?hstep34) AllReadyH.nil
          case hi34 => (simp only [List.getElem?_toArray, List.getElem?_cons_succ, List.getElem?_cons_zero]; try rfl)
          go_simp
          (obtain ⟨z0, z1, z2⟩ := set3_cells n0 n1 n2 (.int .i64 1) (.int .i64 a) (.slice none 0 0))
          refine hK.out _ _ ?_ (fun hHeld => ?_)
          · exact below_set3 hHeld hvb
          clear hK K
          (try simp only [Act.put, List.setIfInBounds_toArray, List.set_cons_zero, List.set_cons_succ])
          refine wpAnyH_take (i := 9) (oi := ?oi35) (v := ?v35) ?hi35 (by kernel_rfl) (by kernel_rfl) (by kernel_rfl) ?hQ35 ?hy35 (by assumption) ?hrest35
          case hi35 => (simp only [List.getElem?_toArray, List.getElem?_cons_succ, List.getElem?_cons_zero]; try rfl)
          case hQ35 => exact fun _ _ _ h => h
          case hy35 =>
            refine Or.inl ⟨by rfl, ?_⟩
            (intro wq hSw; (try dsimp only at hSw); go_simp; try with_reducible rfl)
          (try simp only [Act.put, List.setIfInBounds_toArray, List.set_cons_zero, List.set_cons_succ])
          refine wpAnyH_done (by kernel_rfl) ?_ _
          refine NoPanic.normal ?_
          (go_wp2_with fail; go_meet; exact ⟨_, rfl, rfl, z0, z1, z2, hHeld⟩)
        refine AllReadyH.cons (o := ?oi36) ?hi36 (fun K hK => ?hstep36) ?hmore36
        case hi36 => (simp only [List.getElem?_toArray, List.getElem?_cons_succ, List.getElem?_cons_zero]; try rfl)
        case hstep36 =>
          go_simp
          (have hvb := hHeld.size; (first | refine newvar_Kd ?_ | refine newvar_K ?_); intro wx hbx nv nf nz; have n0 := nv 0 _ rfl; have n1 := nv 1 _ rfl; have n2 := nv 2 _ rfl; have f0 := nf 0; have f1 := nf 1; have f2 := nf 2; clear nv nf)
          refine hK.out _ _ ?_ (fun hHeld => ?_)
          · exact below_step hHeld hbx
          clear hK K
          (try simp only [Act.put, List.setIfInBounds_toArray, List.set_cons_zero, List.set_cons_succ])
          refine wpAnyH_ready (rs := [3]) (by kernel_rfl) (by simp) ?_
          refine AllReadyH.cons (o := ?oi37) ?hi37 (fun K hK => ?hstep37) AllReadyH.nil
          case hi37 => (simp only [List.getElem?_toArray, List.getElem?_cons_succ, List.getElem?_cons_zero]; try rfl)
          go_simp
          (refine (K4.out _).mono ?_; rintro e wx ⟨rfl, hbx⟩; (try have n0 := cell_on hbx n0); (try have f0 := froz_on hbx nz f0); (try have n1 := cell_on hbx n1); (try have f1 := froz_on hbx nz f1); (try have n2 := cell_on hbx n2); (try have f2 := froz_on hbx nz f2); (try have nz := Nat.lt_of_lt_of_le nz hbx.size))
          refine hK.out _ _ ?_ (fun hHeld => ?_)
          · exact below_step hHeld hbx
          clear hK K
          (try simp only [Act.put, List.setIfInBounds_toArray, List.set_cons_zero, List.set_cons_succ])
          refine wpAnyH_take (i := 4) (oi := ?oi38) (v := ?v38) ?hi38 (by kernel_rfl) (by kernel_rfl) (by kernel_rfl) ?hQ38 ?hy38 (by assumption) ?hrest38
          case hi38 => (simp only [List.getElem?_toArray, List.getElem?_cons_succ, List.getElem?_cons_zero]; try rfl)
          case hQ38 => exact fun _ _ _ h => h
          case hy38 =>
            refine Or.inl ⟨by rfl, ?_⟩
            (intro wq hSw; (try dsimp only at hSw); go_simp; try with_reducible rfl)
          (try simp only [Act.put, List.setIfInBounds_toArray, List.set_cons_zero, List.set_cons_succ])
          refine wpAnyH_take (i := 5) (oi := ?oi39) (v := ?v39) ?hi39 (by kernel_rfl) (by kernel_rfl) (by kernel_rfl) ?hQ39 ?hy39 (by assumption) ?hrest39
          case hi39 => (simp only [List.getElem?_toArray, List.getElem?_cons_succ, List.getElem?_cons_zero]; try rfl)
          case hQ39 => exact fun _ _ _ h => h
          case hy39 =>
            refine Or.inl ⟨by rfl, ?_⟩
            (intro wq hSw; (try dsimp only at hSw); go_simp; try with_reducible rfl)
          (try simp only [Act.put, List.setIfInBounds_toArray, List.set_cons_zero, List.set_cons_succ])
          refine wpAnyH_take (i := 6) (oi := ?oi40) (v := ?v40) ?hi40 (by kernel_rfl) (by kernel_rfl) (by kernel_rfl) ?hQ40 ?hy40 (by assumption) ?hrest40
          case hi40 => (simp only [List.getElem?_toArray, List.getElem?_cons_succ, List.getElem?_cons_zero]; try rfl)
          case hQ40 => exact fun _ _ _ h => h
          case hy40 =>
            refine Or.inl ⟨by rfl, ?_⟩
            (intro wq hSw; (try dsimp only at hSw); go_simp; try with_reducible rfl)
          (try simp only [Act.put, List.setIfInBounds_toArray, List.set_cons_zero, List.set_cons_succ])
          refine wpAnyH_ready (rs := [8]) (by kernel_rfl) (by simp) ?_
          refine AllReadyH.cons (o := ?oi41) ?hi41 (fun K hK => ?hstep41) AllReadyH.nil
          case hi41 => (simp only [List.getElem?_toArray, List.getElem?_cons_succ, List.getElem?_cons_zero]; try rfl)
          go_simp
          (obtain ⟨z0, z1, z2⟩ := set3_cells n0 n1 n2 (.int .i64 1) (.int .i64 a) (.slice none 0 0))
          refine hK.out _ _ ?_ (fun hHeld => ?_)
          · exact below_set3 hHeld hvb
          clear hK K
          (try simp only [Act.put, List.setIfInBounds_toArray, List.set_cons_zero, List.set_cons_succ])
          refine wpAnyH_take (i := 9) (oi := ?oi42) (v := ?v42) ?hi42 (by kernel_rfl) (by kernel_rfl) (by kernel_rfl) ?hQ42 ?hy42 (by assumption) ?hrest42
          case hi42 => (simp only [List.getElem?_toArray, List.getElem?_cons_succ, List.getElem?_cons_zero]; try rfl)
          case hQ42 => exact fun _ _ _ h => h
          case hy42 =>
            refine Or.inl ⟨by rfl, ?_⟩
            (intro wq hSw; (try dsimp only at hSw); go_simp; try with_reducible rfl)
          (try simp only [Act.put, List.setIfInBounds_toArray, List.set_cons_zero, List.set_cons_succ])
          refine wpAnyH_done (by kernel_rfl) ?_ _
          refine NoPanic.normal ?_
          (go_wp2_with fail; go_meet; exact ⟨_, rfl, rfl, z0, z1, z2, hHeld⟩)
        exact AllReadyH.nil
      refine AllReadyH.cons (o := ?oi43) ?hi43 (fun K hK => ?hstep43) ?hmore43
      case hi43 => (simp only [List.getElem?_toArray, List.getElem?_cons_succ, List.getElem?_cons_zero]; try rfl)
      case hstep43 =>
        go_simp
        (have hvb := hHeld.size; (first | refine newvar_Kd ?_ | refine newvar_K ?_); intro wx hbx nv nf nz; have n0 := nv 0 _ rfl; have n1 := nv 1 _ rfl; have n2 := nv 2 _ rfl; have f0 := nf 0; have f1 := nf 1; have f2 := nf 2; clear nv nf)
        refine hK.out _ _ ?_ (fun hHeld => ?_)
        · exact below_step hHeld hbx
        clear hK K
        (try simp only [Act.put, List.setIfInBounds_toArray, List.set_cons_zero, List.set_cons_succ])
        refine wpAnyH_ready (rs := [2]) (by kernel_rfl) (by simp) ?_
        refine AllReadyH.cons (o := ?oi44) ?hi44 (fun K hK => ?hstep44) AllReadyH.nil
        case hi44 => (simp only [List.getElem?_toArray, List.getElem?_cons_succ, List.getElem?_cons_zero]; try rfl)
        go_simp
        (refine (num_any _ _).mono ?_; rintro e wx ⟨rfl, hbx⟩; (try have n0 := cell_on hbx n0); (try have f0 := froz_on hbx nz f0); (try have n1 := cell_on hbx n1); (try have f1 := froz_on hbx nz f1); (try have n2 := cell_on hbx n2); (try have f2 := froz_on hbx nz f2); (try have nz := Nat.lt_of_lt_of_le nz hbx.size))
        refine hK.out _ _ ?_ (fun hHeld => ?_)
        · exact below_step hHeld hbx
        clear hK K
        (try simp only [Act.put, List.setIfInBounds_toArray, List.set_cons_zero, List.set_cons_succ])
        refine wpAnyH_ready (rs := [3]) (by kernel_rfl) (by simp) ?_
        refine AllReadyH.cons (o := ?oi45) ?hi45 (fun K hK => ?hstep45) AllReadyH.nil
        case hi45 => (simp only [List.getElem?_toArray, List.getElem?_cons_succ, List.getElem?_cons_zero]; try rfl)
        go_simp
        (refine (K4.out _).mono ?_; rintro e wx ⟨rfl, hbx⟩; (try have n0 := cell_on hbx n0); (try have f0 := froz_on hbx nz f0); (try have n1 := cell_on hbx n1); (try have f1 := froz_on hbx nz f1); (try have n2 := cell_on hbx n2); (try have f2 := froz_on hbx nz f2); (try have nz := Nat.lt_of_lt_of_le nz hbx.size))
        refine hK.out _ _ ?_ (fun hHeld => ?_)
        · exact below_step hHeld hbx
        clear hK K
        (try simp only [Act.put, List.setIfInBounds_toArray, List.set_cons_zero, List.set_cons_succ])
        refine wpAnyH_take (i := 4) (oi := ?oi46) (v := ?v46) ?hi46 (by kernel_rfl) (by kernel_rfl) (by kernel_rfl) ?hQ46 ?hy46 (by assumption) ?hrest46
        case hi46 => (simp only [List.getElem?_toArray, List.getElem?_cons_succ, List.getElem?_cons_zero]; try rfl)
        case hQ46 => exact fun _ _ _ h => h
        case hy46 =>
          refine Or.inl ⟨by rfl, ?_⟩
          (intro wq hSw; (try dsimp only at hSw); go_simp; try with_reducible rfl)
        (try simp only [Act.put, List.setIfInBounds_toArray, List.set_cons_zero, List.set_cons_succ])
        refine wpAnyH_take (i := 5) (oi := ?oi47) (v := ?v47) ?hi47 (by kernel_rfl) (by kernel_rfl) (by kernel_rfl) ?hQ47 ?hy47 (by assumption) ?hrest47
        case hi47 => (simp only [List.getElem?_toArray, List.getElem?_cons_succ, List.getElem?_cons_zero]; try rfl)
        case hQ47 => exact fun _ _ _ h => h
        case hy47 =>
          refine Or.inl ⟨by rfl, ?_⟩
          (intro wq hSw; (try dsimp only at hSw); go_simp; try with_reducible rfl)
        (try simp only [Act.put, List.setIfInBounds_toArray, List.set_cons_zero, List.set_cons_succ])
        refine wpAnyH_take (i := 6) (oi := ?oi48) (v := ?v48) ?hi48 (by kernel_rfl) (by kernel_rfl) (by kernel_rfl) ?hQ48 ?hy48 (by assumption) ?hrest48
        case hi48 => (simp only [List.getElem?_toArray, List.getElem?_cons_succ, List.getElem?_cons_zero]; try rfl)
        case hQ48 => exact fun _ _ _ h => h
        case hy48 =>
          refine Or.inl ⟨by rfl, ?_⟩
          (intro wq hSw; (try dsimp only at hSw); go_simp; try with_reducible rfl)
        (try simp only [Act.put, List.setIfInBounds_toArray, List.set_cons_zero, List.set_cons_succ])
        refine wpAnyH_ready (rs := [8]) (by kernel_rfl) (by simp) ?_
        refine AllReadyH.cons (o := ?oi49) ?hi49 (fun K hK => ?hstep49) AllReadyH.nil
        case hi49 => (simp only [List.getElem?_toArray, List.getElem?_cons_succ, List.getElem?_cons_zero]; try rfl)
        go_simp
        (obtain ⟨z0, z1, z2⟩ := set3_cells n0 n1 n2 (.int .i64 1) (.int .i64 a) (.slice none 0 0))
        refine hK.out _ _ ?_ (fun hHeld => ?_)
        · exact below_set3 hHeld hvb
        clear hK K
        (try simp only [Act.put, List.setIfInBounds_toArray, List.set_cons_zero, List.set_cons_succ])
        refine wpAnyH_take (i := 9) (oi := ?oi50) (v := ?v50) ?hi50 (by kernel_rfl) (by kernel_rfl) (by kernel_rfl) ?hQ50 ?hy50 (by assumption) ?hrest50
        case hi50 => (simp only [List.getElem?_toArray, List.getElem?_cons_succ, List.getElem?_cons_zero]; try rfl)
        case hQ50 => exact fun _ _ _ h => h
        case hy50 =>
          refine Or.inl ⟨by rfl, ?_⟩
          (intro wq hSw; (try dsimp only at hSw); go_simp; try with_reducible rfl)
        (try simp only [Act.put, List.setIfInBounds_toArray, List.set_cons_zero, List.set_cons_succ])
        refine wpAnyH_done (by kernel_rfl) ?_ _
        refine NoPanic.normal ?_
        (go_wp2_with fail; go_meet; exact ⟨_, rfl, rfl, z0, z1, z2, hHeld⟩)
      exact AllReadyH.nil
    case rest =>
      obtain ⟨Yb, rfl, rfl, Y0, Y1, Y2, hby⟩ := hcut
      have S0 := cell_on hby S0
      have S1 := cell_on hby S1
      have S2 := cell_on hby S2
      have D0 := cell_on hby D0
      have D1 := cell_on hby D1
      have D2 := cell_on hby D2
      have X0 := cell_on hby X0
      have X1 := cell_on hby X1
      have X2 := cell_on hby X2
      have bcy := below_step bcx hby
      generalize wc = wdy at S0 S1 S2 D0 D1 D2 X0 X1 X2 Y0 Y1 Y2 hby bcy ⊢
      go_wp2_with fail
      refine (num_any _ _).mono ?_
      rintro e w8 ⟨rfl, hb8⟩
      have S0 := cell_on hb8 S0
      have S1 := cell_on hb8 S1
      have S2 := cell_on hb8 S2
      have D0 := cell_on hb8 D0
      have D1 := cell_on hb8 D1
      have D2 := cell_on hb8 D2
      have X0 := cell_on hb8 X0
      have X1 := cell_on hb8 X1
      have X2 := cell_on hb8 X2
      have Y0 := cell_on hb8 Y0
      have Y1 := cell_on hb8 Y1
      have Y2 := cell_on hb8 Y2
      have bb8 := below_step bcy hb8
      go_wp2_with fail
      refine (num_any _ _).mono ?_
      rintro e w9 ⟨rfl, hb9⟩
      have S0 := cell_on hb9 S0
      have S1 := cell_on hb9 S1
      have S2 := cell_on hb9 S2
      have D0 := cell_on hb9 D0
      have D1 := cell_on hb9 D1
      have D2 := cell_on hb9 D2
      have X0 := cell_on hb9 X0
      have X1 := cell_on hb9 X1
      have X2 := cell_on hb9 X2
      have Y0 := cell_on hb9 Y0
      have Y1 := cell_on hb9 Y1
      have Y2 := cell_on hb9 Y2
      have bb9 := below_step bb8 hb9
      go_wp2_with fail
      refine (K5.out _).mono ?_
      rintro e w10 ⟨rfl, hb10⟩
      have S0 := cell_on hb10 S0
      have S1 := cell_on hb10 S1
      have S2 := cell_on hb10 S2
      have D0 := cell_on hb10 D0
      have D1 := cell_on hb10 D1
      have D2 := cell_on hb10 D2
      have X0 := cell_on hb10 X0
      have X1 := cell_on hb10 X1
      have X2 := cell_on hb10 X2
      have Y0 := cell_on hb10 Y0
      have Y1 := cell_on hb10 Y1
      have Y2 := cell_on hb10 Y2
      have bb10 := below_step bb9 hb10
      have S0u := fun o => cell_on (below_alloc w10 o) S0
      have S1u := fun o => cell_on (below_alloc w10 o) S1
      have S2u := fun o => cell_on (below_alloc w10 o) S2
      go_wp2_with fail
      refine (rsame_yes (l := []) 1 s (Rd.nil _ _) (Rd.nil _ _)).mono ?_
      rintro e wz ⟨rfl, hbz⟩
      go_wp2_with fail
      go_ret
      exact ⟨rfl, below_step (below_step bb10 (below_alloc _ _)) hbz⟩
set_option maxRecDepth 100000 in
set_option maxHeartbeats 3200000 in
theorem undoes_10 (a b s : Int) (w : World) (K1 : Hid (∀ w, Calls Try.prog 10 #[.string ⟨#[43]⟩, .agg #[.int .i64 1, .int .i64 a, .slice none 0 0], .agg #[.int .i64 1, .int .i64 b, .slice none 0 0]] w fun e w' => e = .returned (.tuple #[.agg #[.int .i64 1, .int .i64 s, .slice none 0 0], .int .i64 0]) ∧ Below w.heap.size w w')) (K2 : Hid (∀ w, Calls Try.prog 10 #[.string ⟨#[45]⟩, .agg #[.int .i64 1, .int .i64 a, .slice none 0 0], .agg #[.int .i64 1, .int .i64 b, .slice none 0 0]] w fun e w' => e = .returned (.tuple #[.agg #[.int .i64 0, .int .i64 0, .slice none 0 0], .int .i64 3]) ∧ Below w.heap.size w w')) (K5 : Hid (∀ w, Calls Try.prog 10 #[.string ⟨#[43]⟩, .agg #[.int .i64 1, .int .i64 b, .slice none 0 0], .agg #[.int .i64 1, .int .i64 a, .slice none 0 0]] w fun e w' => e = .returned (.tuple #[.agg #[.int .i64 1, .int .i64 s, .slice none 0 0], .int .i64 0]) ∧ Below w.heap.size w w')) (K3 : Hid (∀ w, Calls Try.prog 10 #[.string ⟨#[45]⟩, .agg #[.int .i64 1, .int .i64 s, .slice none 0 0], .agg #[.int .i64 1, .int .i64 b, .slice none 0 0]] w fun e w' => e = .returned (.tuple #[.agg #[.int .i64 1, .int .i64 a, .slice none 0 0], .int .i64 0]) ∧ Below w.heap.size w w')) :
    Calls Try.prog 3 #[.int .i64 a, .int .i64 b] w fun e w' => e = .returned (.bool true) ∧ Below w.heap.size w w' := by
  go_enter Try.func3, Try.ntmps3
  go_wp2_with fail
  refine (head_any _).mono ?_
  rintro e w1 ⟨rfl, hb1⟩
  have bb1 := hb1
  go_wp2_with fail
  refine (num_any _ _).mono ?_
  rintro e w2 ⟨rfl, hb2⟩
  have bb2 := below_step bb1 hb2
  go_wp2_with fail
  refine (num_any _ _).mono ?_
  rintro e w3 ⟨rfl, hb3⟩
  have bb3 := below_step bb2 hb3
  go_wp2_with fail
  refine (K1.out _).mono ?_
  rintro e w4 ⟨rfl, hb4⟩
  have bb4 := below_step bb3 hb4
  go_wp2_with fail
  refine (num_any _ _).mono ?_
  rintro e w5 ⟨rfl, hb5⟩
  have S0 := var_on hb5 0 _ rfl
  have S1 := var_on hb5 1 _ rfl
  have S2 := var_on hb5 2 _ rfl
  have bb5 := below_step (below_step bb4 (below_alloc _ _)) hb5
  go_wp2_with fail
  refine (num_any _ _).mono ?_
  rintro e w6 ⟨rfl, hb6⟩
  have S0 := cell_on hb6 S0
  have S1 := cell_on hb6 S1
  have S2 := cell_on hb6 S2
  have bb6 := below_step bb5 hb6
  go_wp2_with fail
  refine (K2.out _).mono ?_
  rintro e w7 ⟨rfl, hb7⟩
  have S0 := cell_on hb7 S0
  have S1 := cell_on hb7 S1
  have S2 := cell_on hb7 S2
  have bb7 := below_step bb6 hb7
  go_upto_region 5 with fail
  obtain ⟨va, hva⟩ : ∃ va, w7.alloc (.cells #[.int .i64 0, .int .i64 0, .slice none 0 0] 26) = va := ⟨_, rfl⟩
  have S0 := cell_on (below_alloc w7 (.cells #[.int .i64 0, .int .i64 0, .slice none 0 0] 26)) S0
  have S1 := cell_on (below_alloc w7 (.cells #[.int .i64 0, .int .i64 0, .slice none 0 0] 26)) S1
  have S2 := cell_on (below_alloc w7 (.cells #[.int .i64 0, .int .i64 0, .slice none 0 0] 26)) S2
  have D0 := box_cell w7 #[.int .i64 0, .int .i64 0, .slice none 0 0] 26 0 _ rfl
  have D1 := box_cell w7 #[.int .i64 0, .int .i64 0, .slice none 0 0] 26 1 _ rfl
  have D2 := box_cell w7 #[.int .i64 0, .int .i64 0, .slice none 0 0] 26 2 _ rfl
  have bva := below_step bb7 (below_alloc w7 (.cells #[.int .i64 0, .int .i64 0, .slice none 0 0] 26))
  have zva : w7.heap.size < (w7.alloc (.cells #[.int .i64 0, .int .i64 0, .slice none 0 0] 26)).heap.size := by simp
  rw [hva] at S0 S1 S2 D0 D1 D2 bva zva ⊢
  clear hva
  go_cut [10, 11] (fun s10 s11 wx => ∃ b, s10 = .pointer (some ⟨b, 0, none⟩) ∧ s11 = .int .i64 0 ∧ wx.cell? ⟨b, 0, none⟩ = some (.int .i64 1) ∧ wx.cell? ⟨b, 1, none⟩ = some (.int .i64 a) ∧ wx.cell? ⟨b, 2, none⟩ = some (.slice none 0 0) ∧ Below va.heap.size va wx)
  case first =>
    have S0q := fun W (hW : Below va.heap.size va W) => cell_on hW S0
    have S1q := fun W (hW : Below va.heap.size va W) => cell_on hW S1
    have S2q := fun W (hW : Below va.heap.size va W) => cell_on hW S2
    have D0q := fun W (hW : Below va.heap.size va W) => cell_on hW D0
    have D1q := fun W (hW : Below va.heap.size va W) => cell_on hW D1
    have D2q := fun W (hW : Below va.heap.size va W) => cell_on hW D2
    refine wp_region_noPanic ?_
    refine wp_region_held_drew (S := (fun W => Below va.heap.size va W)) (by kernel_rfl) ?_ (fun hHeld => ?_)
    · exact (Below.refl _ _).drew
    refine wpAnyH_take (i := 0) (oi := ?oi51) (v := ?v51) ?hi51 (by kernel_rfl) (by kernel_rfl) (by kernel_rfl) ?hQ51 ?hy51 (by assumption) ?hrest51
    case hi51 => (simp only [List.getElem?_toArray, List.getElem?_cons_zero]; try rfl)
    case hQ51 => exact fun _ _ _ h => h
    case hy51 =>
      refine Or.inl ⟨by rfl, ?_⟩
      (intro wq hSw; (try dsimp only at hSw); go_simp; try with_reducible rfl)
    (try simp only [Act.put, List.setIfInBounds_toArray, List.set_cons_zero, List.set_cons_succ])
    refine wpAnyH_take (i := 1) (oi := ?oi52) (v := ?v52) ?hi52 (by kernel_rfl) (by kernel_rfl) (by kernel_rfl) ?hQ52 ?hy52 (by assumption) ?hrest52
    case hi52 => (simp only [List.getElem?_toArray, List.getElem?_cons_succ, List.getElem?_cons_zero]; try rfl)
    case hQ52 => exact fun _ _ _ h => h
    case hy52 =>
      refine Or.inl ⟨by rfl, ?_⟩
      (intro wq hSw; (try dsimp only at hSw); go_simp; try with_reducible rfl)
    (try simp only [Act.put, List.setIfInBounds_toArray, List.set_cons_zero, List.set_cons_succ])
    refine wpAnyH_ready (rs := [2, 7]) (by kernel_rfl) (by simp) ?_
    refine AllReadyH.cons (o := ?oi53) ?hi53 (fun K hK => ?hstep53) ?hmore53
    case hi53 => (simp only [List.getElem?_toArray, List.getElem?_cons_succ, List.getElem?_cons_zero]; try rfl)
    case hstep53 =>
      go_simp
      (refine (num_any _ _).mono ?_; rintro e wx ⟨rfl, hbx⟩; (try have n0 := cell_on hbx n0); (try have f0 := froz_on hbx nz f0); (try have n1 := cell_on hbx n1); (try have f1 := froz_on hbx nz f1); (try have n2 := cell_on hbx n2); (try have f2 := froz_on hbx nz f2); (try have nz := Nat.lt_of_lt_of_le nz hbx.size))
      refine hK.out _ _ ?_ (fun hHeld => ?_)
      · exact below_step hHeld hbx
      clear hK K
      (try simp only [Act.put, List.setIfInBounds_toArray, List.set_cons_zero, List.set_cons_succ])
      refine wpAnyH_ready (rs := [3, 7]) (by kernel_rfl) (by simp) ?_
      refine AllReadyH.cons (o := ?oi54) ?hi54 (fun K hK => ?hstep54) ?hmore54
      case hi54 => (simp only [List.getElem?_toArray, List.getElem?_cons_succ, List.getElem?_cons_zero]; try rfl)
      case hstep54 =>
        go_simp
        (refine (K3.out _).mono ?_; rintro e wx ⟨rfl, hbx⟩; (try have n0 := cell_on hbx n0); (try have f0 := froz_on hbx nz f0); (try have n1 := cell_on hbx n1); (try have f1 := froz_on hbx nz f1); (try have n2 := cell_on hbx n2); (try have f2 := froz_on hbx nz f2); (try have nz := Nat.lt_of_lt_of_le nz hbx.size))
        refine hK.out _ _ ?_ (fun hHeld => ?_)
        · exact below_step hHeld hbx
        clear hK K
        (try simp only [Act.put, List.setIfInBounds_toArray, List.set_cons_zero, List.set_cons_succ])
        refine wpAnyH_take (i := 4) (oi := ?oi55) (v := ?v55) ?hi55 (by kernel_rfl) (by kernel_rfl) (by kernel_rfl) ?hQ55 ?hy55 (by assumption) ?hrest55
        case hi55 => (simp only [List.getElem?_toArray, List.getElem?_cons_succ, List.getElem?_cons_zero]; try rfl)
        case hQ55 => exact fun _ _ _ h => h
        case hy55 =>
          refine Or.inl ⟨by rfl, ?_⟩
          (intro wq hSw; (try dsimp only at hSw); go_simp; try with_reducible rfl)
        (try simp only [Act.put, List.setIfInBounds_toArray, List.set_cons_zero, List.set_cons_succ])
        refine wpAnyH_take (i := 5) (oi := ?oi56) (v := ?v56) ?hi56 (by kernel_rfl) (by kernel_rfl) (by kernel_rfl) ?hQ56 ?hy56 (by assumption) ?hrest56
        case hi56 => (simp only [List.getElem?_toArray, List.getElem?_cons_succ, List.getElem?_cons_zero]; try rfl)
        case hQ56 => exact fun _ _ _ h => h
        case hy56 =>
          refine Or.inl ⟨by rfl, ?_⟩
          (intro wq hSw; (try dsimp only at hSw); go_simp; try with_reducible rfl)
        (try simp only [Act.put, List.setIfInBounds_toArray, List.set_cons_zero, List.set_cons_succ])
        refine wpAnyH_take (i := 6) (oi := ?oi57) (v := ?v57) ?hi57 (by kernel_rfl) (by kernel_rfl) (by kernel_rfl) ?hQ57 ?hy57 (by assumption) ?hrest57
        case hi57 => (simp only [List.getElem?_toArray, List.getElem?_cons_succ, List.getElem?_cons_zero]; try rfl)
        case hQ57 => exact fun _ _ _ h => h
        case hy57 =>
          refine Or.inl ⟨by rfl, ?_⟩
          (intro wq hSw; (try dsimp only at hSw); go_simp; try with_reducible rfl)
        (try simp only [Act.put, List.setIfInBounds_toArray, List.set_cons_zero, List.set_cons_succ])
        refine wpAnyH_ready (rs := [7]) (by kernel_rfl) (by simp) ?_
        refine AllReadyH.cons (o := ?oi58) ?hi58 (fun K hK => ?hstep58) AllReadyH.nil
        case hi58 => (simp only [List.getElem?_toArray, List.getElem?_cons_succ, List.getElem?_cons_zero]; try rfl)
        go_simp
        (have hvb := hHeld.size; (first | refine newvar_Kd ?_ | refine newvar_K ?_); intro wx hbx nv nf nz; have n0 := nv 0 _ rfl; have n1 := nv 1 _ rfl; have n2 := nv 2 _ rfl; have f0 := nf 0; have f1 := nf 1; have f2 := nf 2; clear nv nf)
        refine hK.out _ _ ?_ (fun hHeld => ?_)
        · exact below_step hHeld hbx
        clear hK K
        (try simp only [Act.put, List.setIfInBounds_toArray, List.set_cons_zero, List.set_cons_succ])
        refine wpAnyH_ready (rs := [8]) (by kernel_rfl) (by simp) ?_
        refine AllReadyH.cons (o := ?oi59) ?hi59 (fun K hK => ?hstep59) AllReadyH.nil
        case hi59 => (simp only [List.getElem?_toArray, List.getElem?_cons_succ, List.getElem?_cons_zero]; try rfl)
        go_simp
        (obtain ⟨z0, z1, z2⟩ := set3_cells n0 n1 n2 (.int .i64 1) (.int .i64 a) (.slice none 0 0))
        refine hK.out _ _ ?_ (fun hHeld => ?_)
        · exact below_set3 hHeld hvb
        clear hK K
        (try simp only [Act.put, List.setIfInBounds_toArray, List.set_cons_zero, List.set_cons_succ])
        refine wpAnyH_take (i := 9) (oi := ?oi60) (v := ?v60) ?hi60 (by kernel_rfl) (by kernel_rfl) (by kernel_rfl) ?hQ60 ?hy60 (by assumption) ?hrest60
        case hi60 => (simp only [List.getElem?_toArray, List.getElem?_cons_succ, List.getElem?_cons_zero]; try rfl)
        case hQ60 => exact fun _ _ _ h => h
        case hy60 =>
          refine Or.inl ⟨by rfl, ?_⟩
          (intro wq hSw; (try dsimp only at hSw); go_simp; try with_reducible rfl)
        (try simp only [Act.put, List.setIfInBounds_toArray, List.set_cons_zero, List.set_cons_succ])
        refine wpAnyH_done (by kernel_rfl) ?_ _
        refine NoPanic.normal ?_
        (go_wp2_with fail; go_meet; exact ⟨_, rfl, rfl, z0, z1, z2, hHeld⟩)
      refine AllReadyH.cons (o := ?oi61) ?hi61 (fun K hK => ?hstep61) ?hmore61
      case hi61 => (simp only [List.getElem?_toArray, List.getElem?_cons_succ, List.getElem?_cons_zero]; try rfl)
      case hstep61 =>
        go_simp
        (have hvb := hHeld.size; (first | refine newvar_Kd ?_ | refine newvar_K ?_); intro wx hbx nv nf nz; have n0 := nv 0 _ rfl; have n1 := nv 1 _ rfl; have n2 := nv 2 _ rfl; have f0 := nf 0; have f1 := nf 1; have f2 := nf 2; clear nv nf)
        refine hK.out _ _ ?_ (fun hHeld => ?_)
        · exact below_step hHeld hbx
        clear hK K
        (try simp only [Act.put, List.setIfInBounds_toArray, List.set_cons_zero, List.set_cons_succ])
        refine wpAnyH_ready (rs := [3]) (by kernel_rfl) (by simp) ?_
        refine AllReadyH.cons (o := ?oi62) ?hi62 (fun K hK => ?hstep62) AllReadyH.nil
        case hi62 => (simp only [List.getElem?_toArray, List.getElem?_cons_succ, List.getElem?_cons_zero]; try rfl)
        go_simp
        (refine (K3.out _).mono ?_; rintro e wx ⟨rfl, hbx⟩; (try have n0 := cell_on hbx n0); (try have f0 := froz_on hbx nz f0); (try have n1 := cell_on hbx n1); (try have f1 := froz_on hbx nz f1); (try have n2 := cell_on hbx n2); (try have f2 := froz_on hbx nz f2); (try have nz := Nat.lt_of_lt_of_le nz hbx.size))
        refine hK.out _ _ ?_ (fun hHeld => ?_)
        · exact below_step hHeld hbx
        clear hK K
        (try simp only [Act.put, List.setIfInBounds_toArray, List.set_cons_zero, List.set_cons_succ])
        refine wpAnyH_take (i := 4) (oi := ?oi63) (v := ?v63) ?hi63 (by kernel_rfl) (by kernel_rfl) (by kernel_rfl) ?hQ63 ?hy63 (by assumption) ?hrest63
        case hi63 => (simp only [List.getElem?_toArray, List.getElem?_cons_succ, List.getElem?_cons_zero]; try rfl)
        case hQ63 => exact fun _ _ _ h => h
        case hy63 =>
          refine Or.inl ⟨by rfl, ?_⟩
          (intro wq hSw; (try dsimp only at hSw); go_simp; try with_reducible rfl)
        (try simp only [Act.put, List.setIfInBounds_toArray, List.set_cons_zero, List.set_cons_succ])
        refine wpAnyH_take (i := 5) (oi := ?oi64) (v := ?v64) ?hi64 (by kernel_rfl) (by kernel_rfl) (by kernel_rfl) ?hQ64 ?hy64 (by assumption) ?hrest64
        case hi64 => (simp only [List.getElem?_toArray, List.getElem?_cons_succ, List.getElem?_cons_zero]; try rfl)
        case hQ64 => exact fun _ _ _ h => h
        case hy64 =>
          refine Or.inl ⟨by rfl, ?_⟩
          (intro wq hSw; (try dsimp only at hSw); go_simp; try with_reducible rfl)
        (try simp only [Act.put, List.setIfInBounds_toArray, List.set_cons_zero, List.set_cons_succ])
        refine wpAnyH_take (i := 6) (oi := ?oi65) (v := ?v65) ?hi65 (by kernel_rfl) (by kernel_rfl) (by kernel_rfl) ?hQ65 ?hy65 (by assumption) ?hrest65
        case hi65 => (simp only [List.getElem?_toArray, List.getElem?_cons_succ, List.getElem?_cons_zero]; try rfl)
        case hQ65 => exact fun _ _ _ h => h
        case hy65 =>
          refine Or.inl ⟨by rfl, ?_⟩
          (intro wq hSw; (try dsimp only at hSw); go_simp; try with_reducible rfl)
        (try simp only [Act.put, List.setIfInBounds_toArray, List.set_cons_zero, List.set_cons_succ])
        refine wpAnyH_ready (rs := [8]) (by kernel_rfl) (by simp) ?_
        refine AllReadyH.cons (o := ?oi66) ?hi66 (fun K hK => ?hstep66) AllReadyH.nil
        case hi66 => (simp only [List.getElem?_toArray, List.getElem?_cons_succ, List.getElem?_cons_zero]; try rfl)
        go_simp
        (obtain ⟨z0, z1, z2⟩ := set3_cells n0 n1 n2 (.int .i64 1) (.int .i64 a) (.slice none 0 0))
        refine hK.out _ _ ?_ (fun hHeld => ?_)
        · exact below_set3 hHeld hvb
        clear hK K
        (try simp only [Act.put, List.setIfInBounds_toArray, List.set_cons_zero, List.set_cons_succ])
        refine wpAnyH_take (i := 9) (oi := ?oi67) (v := ?v67) ?hi67 (by kernel_rfl) (by kernel_rfl) (by kernel_rfl) ?hQ67 ?hy67 (by assumption) ?hrest67
        case hi67 => (simp only [List.getElem?_toArray, List.getElem?_cons_succ, List.getElem?_cons_zero]; try rfl)
        case hQ67 => exact fun _ _ _ h => h
        case hy67 =>
          refine Or.inl ⟨by rfl, ?_⟩
          (intro wq hSw; (try dsimp only at hSw); go_simp; try with_reducible rfl)
        (try simp only [Act.put, List.setIfInBounds_toArray, List.set_cons_zero, List.set_cons_succ])
        refine wpAnyH_done (by kernel_rfl) ?_ _
        refine NoPanic.normal ?_
        (go_wp2_with fail; go_meet; exact ⟨_, rfl, rfl, z0, z1, z2, hHeld⟩)
      exact AllReadyH.nil
    refine AllReadyH.cons (o := ?oi68) ?hi68 (fun K hK => ?hstep68) ?hmore68
    case hi68 => (simp only [List.getElem?_toArray, List.getElem?_cons_succ, List.getElem?_cons_zero]; try rfl)
    case hstep68 =>
      go_simp
      (have hvb := hHeld.size; (first | refine newvar_Kd ?_ | refine newvar_K ?_); intro wx hbx nv nf nz; have n0 := nv 0 _ rfl; have n1 := nv 1 _ rfl; have n2 := nv 2 _ rfl; have f0 := nf 0; have f1 := nf 1; have f2 := nf 2; clear nv nf)
      refine hK.out _ _ ?_ (fun hHeld => ?_)
      · exact below_step hHeld hbx
      clear hK K
      (try simp only [Act.put, List.setIfInBounds_toArray, List.set_cons_zero, List.set_cons_succ])
      refine wpAnyH_ready (rs := [2]) (by kernel_rfl) (by simp) ?_
      refine AllReadyH.cons (o := ?oi69) ?hi69 (fun K hK => ?hstep69) AllReadyH.nil
      case hi69 => (simp only [List.getElem?_toArray, List.getElem?_cons_succ, List.getElem?_cons_zero]; try rfl)
      go_simp
      (refine (num_any _ _).mono ?_; rintro e wx ⟨rfl, hbx⟩; (try have n0 := cell_on hbx n0); (try have f0 := froz_on hbx nz f0); (try have n1 := cell_on hbx n1); (try have f1 := froz_on hbx nz f1); (try have n2 := cell_on hbx n2); (try have f2 := froz_on hbx nz f2); (try have nz := Nat.lt_of_lt_of_le nz hbx.size))
      refine hK.out _ _ ?_ (fun hHeld => ?_)
      · exact below_step hHeld hbx
      clear hK K
      (try simp only [Act.put, List.setIfInBounds_toArray, List.set_cons_zero, List.set_cons_succ])
      refine wpAnyH_ready (rs := [3]) (by kernel_rfl) (by simp) ?_
      refine AllReadyH.cons (o := ?oi70) ?hi70 (fun K hK => ?hstep70) AllReadyH.nil
      case hi70 => (simp only [List.getElem?_toArray, List.getElem?_cons_succ, List.getElem?_cons_zero]; try rfl)
      go_simp
      (refine (K3.out _).mono ?_; rintro e wx ⟨rfl, hbx⟩; (try have n0 := cell_on hbx n0); (try have f0 := froz_on hbx nz f0); (try have n1 := cell_on hbx n1); (try have f1 := froz_on hbx nz f1); (try have n2 := cell_on hbx n2); (try have f2 := froz_on hbx nz f2); (try have nz := Nat.lt_of_lt_of_le nz hbx.size))
      refine hK.out _ _ ?_ (fun hHeld => ?_)
      · exact below_step hHeld hbx
      clear hK K
      (try simp only [Act.put, List.setIfInBounds_toArray, List.set_cons_zero, List.set_cons_succ])
      refine wpAnyH_take (i := 4) (oi := ?oi71) (v := ?v71) ?hi71 (by kernel_rfl) (by kernel_rfl) (by kernel_rfl) ?hQ71 ?hy71 (by assumption) ?hrest71
      case hi71 => (simp only [List.getElem?_toArray, List.getElem?_cons_succ, List.getElem?_cons_zero]; try rfl)
      case hQ71 => exact fun _ _ _ h => h
      case hy71 =>
        refine Or.inl ⟨by rfl, ?_⟩
        (intro wq hSw; (try dsimp only at hSw); go_simp; try with_reducible rfl)
      (try simp only [Act.put, List.setIfInBounds_toArray, List.set_cons_zero, List.set_cons_succ])
      refine wpAnyH_take (i := 5) (oi := ?oi72) (v := ?v72) ?hi72 (by kernel_rfl) (by kernel_rfl) (by kernel_rfl) ?hQ72 ?hy72 (by assumption) ?hrest72
      case hi72 => (simp only [List.getElem?_toArray, List.getElem?_cons_succ, List.getElem?_cons_zero]; try rfl)
      case hQ72 => exact fun _ _ _ h => h
      case hy72 =>
        refine Or.inl ⟨by rfl, ?_⟩
        (intro wq hSw; (try dsimp only at hSw); go_simp; try with_reducible rfl)
      (try simp only [Act.put, List.setIfInBounds_toArray, List.set_cons_zero, List.set_cons_succ])
      refine wpAnyH_take (i := 6) (oi := ?oi73) (v := ?v73) ?hi73 (by kernel_rfl) (by kernel_rfl) (by kernel_rfl) ?hQ73 ?hy73 (by assumption) ?hrest73
      case hi73 => (simp only [List.getElem?_toArray, List.getElem?_cons_succ, List.getElem?_cons_zero]; try rfl)
      case hQ73 => exact fun _ _ _ h => h
      case hy73 =>
        refine Or.inl ⟨by rfl, ?_⟩
        (intro wq hSw; (try dsimp only at hSw); go_simp; try with_reducible rfl)
      (try simp only [Act.put, List.setIfInBounds_toArray, List.set_cons_zero, List.set_cons_succ])
      refine wpAnyH_ready (rs := [8]) (by kernel_rfl) (by simp) ?_
      refine AllReadyH.cons (o := ?oi74) ?hi74 (fun K hK => ?hstep74) AllReadyH.nil
      case hi74 => (simp only [List.getElem?_toArray, List.getElem?_cons_succ, List.getElem?_cons_zero]; try rfl)
      go_simp
      (obtain ⟨z0, z1, z2⟩ := set3_cells n0 n1 n2 (.int .i64 1) (.int .i64 a) (.slice none 0 0))
      refine hK.out _ _ ?_ (fun hHeld => ?_)
      · exact below_set3 hHeld hvb
      clear hK K
      (try simp only [Act.put, List.setIfInBounds_toArray, List.set_cons_zero, List.set_cons_succ])
      refine wpAnyH_take (i := 9) (oi := ?oi75) (v := ?v75) ?hi75 (by kernel_rfl) (by kernel_rfl) (by kernel_rfl) ?hQ75 ?hy75 (by assumption) ?hrest75
      case hi75 => (simp only [List.getElem?_toArray, List.getElem?_cons_succ, List.getElem?_cons_zero]; try rfl)
      case hQ75 => exact fun _ _ _ h => h
      case hy75 =>
        refine Or.inl ⟨by rfl, ?_⟩
        (intro wq hSw; (try dsimp only at hSw); go_simp; try with_reducible rfl)
      (try simp only [Act.put, List.setIfInBounds_toArray, List.set_cons_zero, List.set_cons_succ])
      refine wpAnyH_done (by kernel_rfl) ?_ _
      refine NoPanic.normal ?_
      (go_wp2_with fail; go_meet; exact ⟨_, rfl, rfl, z0, z1, z2, hHeld⟩)
    exact AllReadyH.nil
  case rest =>
    obtain ⟨Xb, rfl, rfl, X0, X1, X2, hbx⟩ := hcut
    have S0 := cell_on hbx S0
    have S1 := cell_on hbx S1
    have S2 := cell_on hbx S2
    have D0 := cell_on hbx D0
    have D1 := cell_on hbx D1
    have D2 := cell_on hbx D2
    have bcx := below_step bva hbx
    generalize wc = wdx at S0 S1 S2 D0 D1 D2 X0 X1 X2 hbx bcx ⊢
    go_wp2_with fail
    refine (num_any _ _).mono ?_
    rintro e w8 ⟨rfl, hb8⟩
    have S0 := cell_on hb8 S0
    have S1 := cell_on hb8 S1
    have S2 := cell_on hb8 S2
    have D0 := cell_on hb8 D0
    have D1 := cell_on hb8 D1
    have D2 := cell_on hb8 D2
    have X0 := cell_on hb8 X0
    have X1 := cell_on hb8 X1
    have X2 := cell_on hb8 X2
    have bb8 := below_step bcx hb8
    go_wp2_with fail
    refine (num_any _ _).mono ?_
    rintro e w9 ⟨rfl, hb9⟩
    have S0 := cell_on hb9 S0
    have S1 := cell_on hb9 S1
    have S2 := cell_on hb9 S2
    have D0 := cell_on hb9 D0
    have D1 := cell_on hb9 D1
    have D2 := cell_on hb9 D2
    have X0 := cell_on hb9 X0
    have X1 := cell_on hb9 X1
    have X2 := cell_on hb9 X2
    have bb9 := below_step bb8 hb9
    go_wp2_with fail
    refine (K5.out _).mono ?_
    rintro e w10 ⟨rfl, hb10⟩
    have S0 := cell_on hb10 S0
    have S1 := cell_on hb10 S1
    have S2 := cell_on hb10 S2
    have D0 := cell_on hb10 D0
    have D1 := cell_on hb10 D1
    have D2 := cell_on hb10 D2
    have X0 := cell_on hb10 X0
    have X1 := cell_on hb10 X1
    have X2 := cell_on hb10 X2
    have bb10 := below_step bb9 hb10
    have S0u := fun o => cell_on (below_alloc w10 o) S0
    have S1u := fun o => cell_on (below_alloc w10 o) S1
    have S2u := fun o => cell_on (below_alloc w10 o) S2
    go_wp2_with fail
    refine (rsame_yes (l := []) 1 s (Rd.nil _ _) (Rd.nil _ _)).mono ?_
    rintro e wz ⟨rfl, hbz⟩
    go_wp2_with fail
    go_ret
    exact ⟨rfl, below_step (below_step bb10 (below_alloc _ _)) hbz⟩
set_option maxRecDepth 100000 in
set_option maxHeartbeats 3200000 in
theorem undoes_01 (a b d : Int) (w : World) (K1 : Hid (∀ w, Calls Try.prog 10 #[.string ⟨#[43]⟩, .agg #[.int .i64 1, .int .i64 a, .slice none 0 0], .agg #[.int .i64 1, .int .i64 b, .slice none 0 0]] w fun e w' => e = .returned (.tuple #[.agg #[.int .i64 0, .int .i64 0, .slice none 0 0], .int .i64 3]) ∧ Below w.heap.size w w')) (K2 : Hid (∀ w, Calls Try.prog 10 #[.string ⟨#[45]⟩, .agg #[.int .i64 1, .int .i64 a, .slice none 0 0], .agg #[.int .i64 1, .int .i64 b, .slice none 0 0]] w fun e w' => e = .returned (.tuple #[.agg #[.int .i64 1, .int .i64 d, .slice none 0 0], .int .i64 0]) ∧ Below w.heap.size w w')) (K5 : Hid (∀ w, Calls Try.prog 10 #[.string ⟨#[43]⟩, .agg #[.int .i64 1, .int .i64 b, .slice none 0 0], .agg #[.int .i64 1, .int .i64 a, .slice none 0 0]] w fun e w' => e = .returned (.tuple #[.agg #[.int .i64 0, .int .i64 0, .slice none 0 0], .int .i64 3]) ∧ Below w.heap.size w w')) (K4 : Hid (∀ w, Calls Try.prog 10 #[.string ⟨#[43]⟩, .agg #[.int .i64 1, .int .i64 d, .slice none 0 0], .agg #[.int .i64 1, .int .i64 b, .slice none 0 0]] w fun e w' => e = .returned (.tuple #[.agg #[.int .i64 1, .int .i64 a, .slice none 0 0], .int .i64 0]) ∧ Below w.heap.size w w')) :
    Calls Try.prog 3 #[.int .i64 a, .int .i64 b] w fun e w' => e = .returned (.bool true) ∧ Below w.heap.size w w' := by
  go_enter Try.func3, Try.ntmps3
  go_wp2_with fail
  refine (head_any _).mono ?_
  rintro e w1 ⟨rfl, hb1⟩
  have bb1 := hb1
  go_wp2_with fail
  refine (num_any _ _).mono ?_
  rintro e w2 ⟨rfl, hb2⟩
  have bb2 := below_step bb1 hb2
  go_wp2_with fail
  refine (num_any _ _).mono ?_
  rintro e w3 ⟨rfl, hb3⟩
  have bb3 := below_step bb2 hb3
  go_wp2_with fail
  refine (K1.out _).mono ?_
  rintro e w4 ⟨rfl, hb4⟩
  have bb4 := below_step bb3 hb4
  go_wp2_with fail
  refine (num_any _ _).mono ?_
  rintro e w5 ⟨rfl, hb5⟩
  have S0 := var_on hb5 0 _ rfl
  have S1 := var_on hb5 1 _ rfl
  have S2 := var_on hb5 2 _ rfl
  have bb5 := below_step (below_step bb4 (below_alloc _ _)) hb5
  go_wp2_with fail
  refine (num_any _ _).mono ?_
  rintro e w6 ⟨rfl, hb6⟩
  have S0 := cell_on hb6 S0
  have S1 := cell_on hb6 S1
  have S2 := cell_on hb6 S2
  have bb6 := below_step bb5 hb6
  go_wp2_with fail
  refine (K2.out _).mono ?_
  rintro e w7 ⟨rfl, hb7⟩
  have S0 := cell_on hb7 S0
  have S1 := cell_on hb7 S1
  have S2 := cell_on hb7 S2
  have bb7 := below_step bb6 hb7
  go_upto_region 9 with fail
  obtain ⟨va, hva⟩ : ∃ va, w7.alloc (.cells #[.int .i64 1, .int .i64 d, .slice none 0 0] 26) = va := ⟨_, rfl⟩
  have S0 := cell_on (below_alloc w7 (.cells #[.int .i64 1, .int .i64 d, .slice none 0 0] 26)) S0
  have S1 := cell_on (below_alloc w7 (.cells #[.int .i64 1, .int .i64 d, .slice none 0 0] 26)) S1
  have S2 := cell_on (below_alloc w7 (.cells #[.int .i64 1, .int .i64 d, .slice none 0 0] 26)) S2
  have D0 := box_cell w7 #[.int .i64 1, .int .i64 d, .slice none 0 0] 26 0 _ rfl
  have D1 := box_cell w7 #[.int .i64 1, .int .i64 d, .slice none 0 0] 26 1 _ rfl
  have D2 := box_cell w7 #[.int .i64 1, .int .i64 d, .slice none 0 0] 26 2 _ rfl
  have bva := below_step bb7 (below_alloc w7 (.cells #[.int .i64 1, .int .i64 d, .slice none 0 0] 26))
  have zva : w7.heap.size < (w7.alloc (.cells #[.int .i64 1, .int .i64 d, .slice none 0 0] 26)).heap.size := by simp
  rw [hva] at S0 S1 S2 D0 D1 D2 bva zva ⊢
  clear hva
  go_cut [12, 13] (fun s12 s13 wx => ∃ b, s12 = .pointer (some ⟨b, 0, none⟩) ∧ s13 = .int .i64 0 ∧ wx.cell? ⟨b, 0, none⟩ = some (.int .i64 1) ∧ wx.cell? ⟨b, 1, none⟩ = some (.int .i64 a) ∧ wx.cell? ⟨b, 2, none⟩ = some (.slice none 0 0) ∧ Below va.heap.size va wx)
  case first =>
    have S0q := fun W (hW : Below va.heap.size va W) => cell_on hW S0
    have S1q := fun W (hW : Below va.heap.size va W) => cell_on hW S1
    have S2q := fun W (hW : Below va.heap.size va W) => cell_on hW S2
    have D0q := fun W (hW : Below va.heap.size va W) => cell_on hW D0
    have D1q := fun W (hW : Below va.heap.size va W) => cell_on hW D1
    have D2q := fun W (hW : Below va.heap.size va W) => cell_on hW D2
    refine wp_region_noPanic ?_
    refine wp_region_held_drew (S := (fun W => Below va.heap.size va W)) (by kernel_rfl) ?_ (fun hHeld => ?_)
    · exact (Below.refl _ _).drew
    refine wpAnyH_take (i := 0) (oi := ?oi76) (v := ?v76) ?hi76 (by kernel_rfl) (by kernel_rfl) (by kernel_rfl) ?hQ76 ?hy76 (by assumption) ?hrest76
    case hi76 => (simp only [List.getElem?_toArray, List.getElem?_cons_zero]; try rfl)
    case hQ76 => exact fun _ _ _ h => h
    case hy76 =>
      refine Or.inl ⟨by rfl, ?_⟩
      (intro wq hSw; (try dsimp only at hSw); go_simp; try with_reducible rfl)
    (try simp only [Act.put, List.setIfInBounds_toArray, List.set_cons_zero, List.set_cons_succ])
    refine wpAnyH_take (i := 1) (oi := ?oi77) (v := ?v77) ?hi77 (by kernel_rfl) (by kernel_rfl) (by kernel_rfl) ?hQ77 ?hy77 (by assumption) ?hrest77
    case hi77 => (simp only [List.getElem?_toArray, List.getElem?_cons_succ, List.getElem?_cons_zero]; try rfl)
    case hQ77 => exact fun _ _ _ h => h
    case hy77 =>
      refine Or.inl ⟨by rfl, ?_⟩
      (intro wq hSw; (try dsimp only at hSw); go_simp; try with_reducible rfl)
    (try simp only [Act.put, List.setIfInBounds_toArray, List.set_cons_zero, List.set_cons_succ])
    refine wpAnyH_ready (rs := [2, 7]) (by kernel_rfl) (by simp) ?_
    refine AllReadyH.cons (o := ?oi78) ?hi78 (fun K hK => ?hstep78) ?hmore78
    case hi78 => (simp only [List.getElem?_toArray, List.getElem?_cons_succ, List.getElem?_cons_zero]; try rfl)
    case hstep78 =>
      go_simp
      (refine (num_any _ _).mono ?_; rintro e wx ⟨rfl, hbx⟩; (try have n0 := cell_on hbx n0); (try have f0 := froz_on hbx nz f0); (try have n1 := cell_on hbx n1); (try have f1 := froz_on hbx nz f1); (try have n2 := cell_on hbx n2); (try have f2 := froz_on hbx nz f2); (try have nz := Nat.lt_of_lt_of_le nz hbx.size))
      refine hK.out _ _ ?_ (fun hHeld => ?_)
      · exact below_step hHeld hbx
      clear hK K
      (try simp only [Act.put, List.setIfInBounds_toArray, List.set_cons_zero, List.set_cons_succ])
      refine wpAnyH_ready (rs := [3, 7]) (by kernel_rfl) (by simp) ?_
      refine AllReadyH.cons (o := ?oi79) ?hi79 (fun K hK => ?hstep79) ?hmore79
      case hi79 => (simp only [List.getElem?_toArray, List.getElem?_cons_succ, List.getElem?_cons_zero]; try rfl)
      case hstep79 =>
        go_simp
        (refine (K4.out _).mono ?_; rintro e wx ⟨rfl, hbx⟩; (try have n0 := cell_on hbx n0); (try have f0 := froz_on hbx nz f0); (try have n1 := cell_on hbx n1); (try have f1 := froz_on hbx nz f1); (try have n2 := cell_on hbx n2); (try have f2 := froz_on hbx nz f2); (try have nz := Nat.lt_of_lt_of_le nz hbx.size))
        refine hK.out _ _ ?_ (fun hHeld => ?_)
        · exact below_step hHeld hbx
        clear hK K
        (try simp only [Act.put, List.setIfInBounds_toArray, List.set_cons_zero, List.set_cons_succ])
        refine wpAnyH_take (i := 4) (oi := ?oi80) (v := ?v80) ?hi80 (by kernel_rfl) (by kernel_rfl) (by kernel_rfl) ?hQ80 ?hy80 (by assumption) ?hrest80
        case hi80 => (simp only [List.getElem?_toArray, List.getElem?_cons_succ, List.getElem?_cons_zero]; try rfl)
        case hQ80 => exact fun _ _ _ h => h
        case hy80 =>
          refine Or.inl ⟨by rfl, ?_⟩
          (intro wq hSw; (try dsimp only at hSw); go_simp; try with_reducible rfl)
        (try simp only [Act.put, List.setIfInBounds_toArray, List.set_cons_zero, List.set_cons_succ])
        refine wpAnyH_take (i := 5) (oi := ?oi81) (v := ?v81) ?hi81 (by kernel_rfl) (by kernel_rfl) (by kernel_rfl) ?hQ81 ?hy81 (by assumption) ?hrest81
        case hi81 => (simp only [List.getElem?_toArray, List.getElem?_cons_succ, List.getElem?_cons_zero]; try rfl)
        case hQ81 => exact fun _ _ _ h => h
        case hy81 =>
          refine Or.inl ⟨by rfl, ?_⟩
          (intro wq hSw; (try dsimp only at hSw); go_simp; try with_reducible rfl)
        (try simp only [Act.put, List.setIfInBounds_toArray, List.set_cons_zero, List.set_cons_succ])
        refine wpAnyH_take (i := 6) (oi := ?oi82) (v := ?v82) ?hi82 (by kernel_rfl) (by kernel_rfl) (by kernel_rfl) ?hQ82 ?hy82 (by assumption) ?hrest82
        case hi82 => (simp only [List.getElem?_toArray, List.getElem?_cons_succ, List.getElem?_cons_zero]; try rfl)
        case hQ82 => exact fun _ _ _ h => h
        case hy82 =>
          refine Or.inl ⟨by rfl, ?_⟩
          (intro wq hSw; (try dsimp only at hSw); go_simp; try with_reducible rfl)
        (try simp only [Act.put, List.setIfInBounds_toArray, List.set_cons_zero, List.set_cons_succ])
        refine wpAnyH_ready (rs := [7]) (by kernel_rfl) (by simp) ?_
        refine AllReadyH.cons (o := ?oi83) ?hi83 (fun K hK => ?hstep83) AllReadyH.nil
        case hi83 => (simp only [List.getElem?_toArray, List.getElem?_cons_succ, List.getElem?_cons_zero]; try rfl)
        go_simp
        (have hvb := hHeld.size; (first | refine newvar_Kd ?_ | refine newvar_K ?_); intro wx hbx nv nf nz; have n0 := nv 0 _ rfl; have n1 := nv 1 _ rfl; have n2 := nv 2 _ rfl; have f0 := nf 0; have f1 := nf 1; have f2 := nf 2; clear nv nf)
        refine hK.out _ _ ?_ (fun hHeld => ?_)
        · exact below_step hHeld hbx
        clear hK K
        (try simp only [Act.put, List.setIfInBounds_toArray, List.set_cons_zero, List.set_cons_succ])
        refine wpAnyH_ready (rs := [8]) (by kernel_rfl) (by simp) ?_
        refine AllReadyH.cons (o := ?oi84) ?hi84 (fun K hK => ?hstep84) AllReadyH.nil
        case hi84 => (simp only [List.getElem?_toArray, List.getElem?_cons_succ, List.getElem?_cons_zero]; try rfl)
        go_simp
        (obtain ⟨z0, z1, z2⟩ := set3_cells n0 n1 n2 (.int .i64 1) (.int .i64 a) (.slice none 0 0))
        refine hK.out _ _ ?_ (fun hHeld => ?_)
        · exact below_set3 hHeld hvb
        clear hK K
        (try simp only [Act.put, List.setIfInBounds_toArray, List.set_cons_zero, List.set_cons_succ])
        refine wpAnyH_take (i := 9) (oi := ?oi85) (v := ?v85) ?hi85 (by kernel_rfl) (by kernel_rfl) (by kernel_rfl) ?hQ85 ?hy85 (by assumption) ?hrest85
        case hi85 => (simp only [List.getElem?_toArray, List.getElem?_cons_succ, List.getElem?_cons_zero]; try rfl)
        case hQ85 => exact fun _ _ _ h => h
        case hy85 =>
          refine Or.inl ⟨by rfl, ?_⟩
          (intro wq hSw; (try dsimp only at hSw); go_simp; try with_reducible rfl)
        (try simp only [Act.put, List.setIfInBounds_toArray, List.set_cons_zero, List.set_cons_succ])
        refine wpAnyH_done (by kernel_rfl) ?_ _
        refine NoPanic.normal ?_
        (go_wp2_with fail; go_meet; exact ⟨_, rfl, rfl, z0, z1, z2, hHeld⟩)
      refine AllReadyH.cons (o := ?oi86) ?hi86 (fun K hK => ?hstep86) ?hmore86
      case hi86 => (simp only [List.getElem?_toArray, List.getElem?_cons_succ, List.getElem?_cons_zero]; try rfl)
      case hstep86 =>
        go_simp
        (have hvb := hHeld.size; (first | refine newvar_Kd ?_ | refine newvar_K ?_); intro wx hbx nv nf nz; have n0 := nv 0 _ rfl; have n1 := nv 1 _ rfl; have n2 := nv 2 _ rfl; have f0 := nf 0; have f1 := nf 1; have f2 := nf 2; clear nv nf)
        refine hK.out _ _ ?_ (fun hHeld => ?_)
        · exact below_step hHeld hbx
        clear hK K
        (try simp only [Act.put, List.setIfInBounds_toArray, List.set_cons_zero, List.set_cons_succ])
        refine wpAnyH_ready (rs := [3]) (by kernel_rfl) (by simp) ?_
        refine AllReadyH.cons (o := ?oi87) ?hi87 (fun K hK => ?hstep87) AllReadyH.nil
        case hi87 => (simp only [List.getElem?_toArray, List.getElem?_cons_succ, List.getElem?_cons_zero]; try rfl)
        go_simp
        (refine (K4.out _).mono ?_; rintro e wx ⟨rfl, hbx⟩; (try have n0 := cell_on hbx n0); (try have f0 := froz_on hbx nz f0); (try have n1 := cell_on hbx n1); (try have f1 := froz_on hbx nz f1); (try have n2 := cell_on hbx n2); (try have f2 := froz_on hbx nz f2); (try have nz := Nat.lt_of_lt_of_le nz hbx.size))
        refine hK.out _ _ ?_ (fun hHeld => ?_)
        · exact below_step hHeld hbx
        clear hK K
        (try simp only [Act.put, List.setIfInBounds_toArray, List.set_cons_zero, List.set_cons_succ])
        refine wpAnyH_take (i := 4) (oi := ?oi88) (v := ?v88) ?hi88 (by kernel_rfl) (by kernel_rfl) (by kernel_rfl) ?hQ88 ?hy88 (by assumption) ?hrest88
        case hi88 => (simp only [List.getElem?_toArray, List.getElem?_cons_succ, List.getElem?_cons_zero]; try rfl)
        case hQ88 => exact fun _ _ _ h => h
        case hy88 =>
          refine Or.inl ⟨by rfl, ?_⟩
          (intro wq hSw; (try dsimp only at hSw); go_simp; try with_reducible rfl)
        (try simp only [Act.put, List.setIfInBounds_toArray, List.set_cons_zero, List.set_cons_succ])
        refine wpAnyH_take (i := 5) (oi := ?oi89) (v := ?v89) ?hi89 (by kernel_rfl) (by kernel_rfl) (by kernel_rfl) ?hQ89 ?hy89 (by assumption) ?hrest89
        case hi89 => (simp only [List.getElem?_toArray, List.getElem?_cons_succ, List.getElem?_cons_zero]; try rfl)
        case hQ89 => exact fun _ _ _ h => h
        case hy89 =>
          refine Or.inl ⟨by rfl, ?_⟩
          (intro wq hSw; (try dsimp only at hSw); go_simp; try with_reducible rfl)
        (try simp only [Act.put, List.setIfInBounds_toArray, List.set_cons_zero, List.set_cons_succ])
        refine wpAnyH_take (i := 6) (oi := ?oi90) (v := ?v90) ?hi90 (by kernel_rfl) (by kernel_rfl) (by kernel_rfl) ?hQ90 ?hy90 (by assumption) ?hrest90
        case hi90 => (simp only [List.getElem?_toArray, List.getElem?_cons_succ, List.getElem?_cons_zero]; try rfl)
        case hQ90 => exact fun _ _ _ h => h
        case hy90 =>
          refine Or.inl ⟨by rfl, ?_⟩
          (intro wq hSw; (try dsimp only at hSw); go_simp; try with_reducible rfl)
        (try simp only [Act.put, List.setIfInBounds_toArray, List.set_cons_zero, List.set_cons_succ])
        refine wpAnyH_ready (rs := [8]) (by kernel_rfl) (by simp) ?_
        refine AllReadyH.cons (o := ?oi91) ?hi91 (fun K hK => ?hstep91) AllReadyH.nil
        case hi91 => (simp only [List.getElem?_toArray, List.getElem?_cons_succ, List.getElem?_cons_zero]; try rfl)
        go_simp
        (obtain ⟨z0, z1, z2⟩ := set3_cells n0 n1 n2 (.int .i64 1) (.int .i64 a) (.slice none 0 0))
        refine hK.out _ _ ?_ (fun hHeld => ?_)
        · exact below_set3 hHeld hvb
        clear hK K
        (try simp only [Act.put, List.setIfInBounds_toArray, List.set_cons_zero, List.set_cons_succ])
        refine wpAnyH_take (i := 9) (oi := ?oi92) (v := ?v92) ?hi92 (by kernel_rfl) (by kernel_rfl) (by kernel_rfl) ?hQ92 ?hy92 (by assumption) ?hrest92
        case hi92 => (simp only [List.getElem?_toArray, List.getElem?_cons_succ, List.getElem?_cons_zero]; try rfl)
        case hQ92 => exact fun _ _ _ h => h
        case hy92 =>
          refine Or.inl ⟨by rfl, ?_⟩
          (intro wq hSw; (try dsimp only at hSw); go_simp; try with_reducible rfl)
        (try simp only [Act.put, List.setIfInBounds_toArray, List.set_cons_zero, List.set_cons_succ])
        refine wpAnyH_done (by kernel_rfl) ?_ _
        refine NoPanic.normal ?_
        (go_wp2_with fail; go_meet; exact ⟨_, rfl, rfl, z0, z1, z2, hHeld⟩)
      exact AllReadyH.nil
    refine AllReadyH.cons (o := ?oi93) ?hi93 (fun K hK => ?hstep93) ?hmore93
    case hi93 => (simp only [List.getElem?_toArray, List.getElem?_cons_succ, List.getElem?_cons_zero]; try rfl)
    case hstep93 =>
      go_simp
      (have hvb := hHeld.size; (first | refine newvar_Kd ?_ | refine newvar_K ?_); intro wx hbx nv nf nz; have n0 := nv 0 _ rfl; have n1 := nv 1 _ rfl; have n2 := nv 2 _ rfl; have f0 := nf 0; have f1 := nf 1; have f2 := nf 2; clear nv nf)
      refine hK.out _ _ ?_ (fun hHeld => ?_)
      · exact below_step hHeld hbx
      clear hK K
      (try simp only [Act.put, List.setIfInBounds_toArray, List.set_cons_zero, List.set_cons_succ])
      refine wpAnyH_ready (rs := [2]) (by kernel_rfl) (by simp) ?_
      refine AllReadyH.cons (o := ?oi94) ?hi94 (fun K hK => ?hstep94) AllReadyH.nil
      case hi94 => (simp only [List.getElem?_toArray, List.getElem?_cons_succ, List.getElem?_cons_zero]; try rfl)
      go_simp
      (refine (num_any _ _).mono ?_; rintro e wx ⟨rfl, hbx⟩; (try have n0 := cell_on hbx n0); (try have f0 := froz_on hbx nz f0); (try have n1 := cell_on hbx n1); (try have f1 := froz_on hbx nz f1); (try have n2 := cell_on hbx n2); (try have f2 := froz_on hbx nz f2); (try have nz := Nat.lt_of_lt_of_le nz hbx.size))
      refine hK.out _ _ ?_ (fun hHeld => ?_)
      · exact below_step hHeld hbx
      clear hK K
      (try simp only [Act.put, List.setIfInBounds_toArray, List.set_cons_zero, List.set_cons_succ])
      refine wpAnyH_ready (rs := [3]) (by kernel_rfl) (by simp) ?_
      refine AllReadyH.cons (o := ?oi95) ?hi95 (fun K hK => ?hstep95) AllReadyH.nil
      case hi95 => (simp only [List.getElem?_toArray, List.getElem?_cons_succ, List.getElem?_cons_zero]; try rfl)
      go_simp
      (refine (K4.out _).mono ?_; rintro e wx ⟨rfl, hbx⟩; (try have n0 := cell_on hbx n0); (try have f0 := froz_on hbx nz f0); (try have n1 := cell_on hbx n1); (try have f1 := froz_on hbx nz f1); (try have n2 := cell_on hbx n2); (try have f2 := froz_on hbx nz f2); (try have nz := Nat.lt_of_lt_of_le nz hbx.size))
      refine hK.out _ _ ?_ (fun hHeld => ?_)
      · exact below_step hHeld hbx
      clear hK K
      (try simp only [Act.put, List.setIfInBounds_toArray, List.set_cons_zero, List.set_cons_succ])
      refine wpAnyH_take (i := 4) (oi := ?oi96) (v := ?v96) ?hi96 (by kernel_rfl) (by kernel_rfl) (by kernel_rfl) ?hQ96 ?hy96 (by assumption) ?hrest96
      case hi96 => (simp only [List.getElem?_toArray, List.getElem?_cons_succ, List.getElem?_cons_zero]; try rfl)
      case hQ96 => exact fun _ _ _ h => h
      case hy96 =>
        refine Or.inl ⟨by rfl, ?_⟩
        (intro wq hSw; (try dsimp only at hSw); go_simp; try with_reducible rfl)
      (try simp only [Act.put, List.setIfInBounds_toArray, List.set_cons_zero, List.set_cons_succ])
      refine wpAnyH_take (i := 5) (oi := ?oi97) (v := ?v97) ?hi97 (by kernel_rfl) (by kernel_rfl) (by kernel_rfl) ?hQ97 ?hy97 (by assumption) ?hrest97
      case hi97 => (simp only [List.getElem?_toArray, List.getElem?_cons_succ, List.getElem?_cons_zero]; try rfl)
      case hQ97 => exact fun _ _ _ h => h
      case hy97 =>
        refine Or.inl ⟨by rfl, ?_⟩
        (intro wq hSw; (try dsimp only at hSw); go_simp; try with_reducible rfl)
      (try simp only [Act.put, List.setIfInBounds_toArray, List.set_cons_zero, List.set_cons_succ])
      refine wpAnyH_take (i := 6) (oi := ?oi98) (v := ?v98) ?hi98 (by kernel_rfl) (by kernel_rfl) (by kernel_rfl) ?hQ98 ?hy98 (by assumption) ?hrest98
      case hi98 => (simp only [List.getElem?_toArray, List.getElem?_cons_succ, List.getElem?_cons_zero]; try rfl)
      case hQ98 => exact fun _ _ _ h => h
      case hy98 =>
        refine Or.inl ⟨by rfl, ?_⟩
        (intro wq hSw; (try dsimp only at hSw); go_simp; try with_reducible rfl)
      (try simp only [Act.put, List.setIfInBounds_toArray, List.set_cons_zero, List.set_cons_succ])
      refine wpAnyH_ready (rs := [8]) (by kernel_rfl) (by simp) ?_
      refine AllReadyH.cons (o := ?oi99) ?hi99 (fun K hK => ?hstep99) AllReadyH.nil
      case hi99 => (simp only [List.getElem?_toArray, List.getElem?_cons_succ, List.getElem?_cons_zero]; try rfl)
      go_simp
      (obtain ⟨z0, z1, z2⟩ := set3_cells n0 n1 n2 (.int .i64 1) (.int .i64 a) (.slice none 0 0))
      refine hK.out _ _ ?_ (fun hHeld => ?_)
      · exact below_set3 hHeld hvb
      clear hK K
      (try simp only [Act.put, List.setIfInBounds_toArray, List.set_cons_zero, List.set_cons_succ])
      refine wpAnyH_take (i := 9) (oi := ?oi100) (v := ?v100) ?hi100 (by kernel_rfl) (by kernel_rfl) (by kernel_rfl) ?hQ100 ?hy100 (by assumption) ?hrest100
      case hi100 => (simp only [List.getElem?_toArray, List.getElem?_cons_succ, List.getElem?_cons_zero]; try rfl)
      case hQ100 => exact fun _ _ _ h => h
      case hy100 =>
        refine Or.inl ⟨by rfl, ?_⟩
        (intro wq hSw; (try dsimp only at hSw); go_simp; try with_reducible rfl)
      (try simp only [Act.put, List.setIfInBounds_toArray, List.set_cons_zero, List.set_cons_succ])
      refine wpAnyH_done (by kernel_rfl) ?_ _
      refine NoPanic.normal ?_
      (go_wp2_with fail; go_meet; exact ⟨_, rfl, rfl, z0, z1, z2, hHeld⟩)
    exact AllReadyH.nil
  case rest =>
    obtain ⟨Yb, rfl, rfl, Y0, Y1, Y2, hby⟩ := hcut
    have S0 := cell_on hby S0
    have S1 := cell_on hby S1
    have S2 := cell_on hby S2
    have D0 := cell_on hby D0
    have D1 := cell_on hby D1
    have D2 := cell_on hby D2
    have bcy := below_step bva hby
    generalize wc = wdy at S0 S1 S2 D0 D1 D2 Y0 Y1 Y2 hby bcy ⊢
    go_wp2_with fail
    refine (num_any _ _).mono ?_
    rintro e w8 ⟨rfl, hb8⟩
    have S0 := cell_on hb8 S0
    have S1 := cell_on hb8 S1
    have S2 := cell_on hb8 S2
    have D0 := cell_on hb8 D0
    have D1 := cell_on hb8 D1
    have D2 := cell_on hb8 D2
    have Y0 := cell_on hb8 Y0
    have Y1 := cell_on hb8 Y1
    have Y2 := cell_on hb8 Y2
    have bb8 := below_step bcy hb8
    go_wp2_with fail
    refine (num_any _ _).mono ?_
    rintro e w9 ⟨rfl, hb9⟩
    have S0 := cell_on hb9 S0
    have S1 := cell_on hb9 S1
    have S2 := cell_on hb9 S2
    have D0 := cell_on hb9 D0
    have D1 := cell_on hb9 D1
    have D2 := cell_on hb9 D2
    have Y0 := cell_on hb9 Y0
    have Y1 := cell_on hb9 Y1
    have Y2 := cell_on hb9 Y2
    have bb9 := below_step bb8 hb9
    go_wp2_with fail
    refine (K5.out _).mono ?_
    rintro e w10 ⟨rfl, hb10⟩
    have S0 := cell_on hb10 S0
    have S1 := cell_on hb10 S1
    have S2 := cell_on hb10 S2
    have D0 := cell_on hb10 D0
    have D1 := cell_on hb10 D1
    have D2 := cell_on hb10 D2
    have Y0 := cell_on hb10 Y0
    have Y1 := cell_on hb10 Y1
    have Y2 := cell_on hb10 Y2
    have bb10 := below_step bb9 hb10
    have S0u := fun o => cell_on (below_alloc w10 o) S0
    have S1u := fun o => cell_on (below_alloc w10 o) S1
    have S2u := fun o => cell_on (below_alloc w10 o) S2
    go_wp2_with fail
    refine (rsame_yes (l := []) 0 0 (Rd.nil _ _) (Rd.nil _ _)).mono ?_
    rintro e wz ⟨rfl, hbz⟩
    go_wp2_with fail
    go_ret
    exact ⟨rfl, below_step (below_step bb10 (below_alloc _ _)) hbz⟩
set_option maxRecDepth 100000 in
set_option maxHeartbeats 3200000 in
theorem undoes_00 (a b : Int) (w : World) (K1 : Hid (∀ w, Calls Try.prog 10 #[.string ⟨#[43]⟩, .agg #[.int .i64 1, .int .i64 a, .slice none 0 0], .agg #[.int .i64 1, .int .i64 b, .slice none 0 0]] w fun e w' => e = .returned (.tuple #[.agg #[.int .i64 0, .int .i64 0, .slice none 0 0], .int .i64 3]) ∧ Below w.heap.size w w')) (K2 : Hid (∀ w, Calls Try.prog 10 #[.string ⟨#[45]⟩, .agg #[.int .i64 1, .int .i64 a, .slice none 0 0], .agg #[.int .i64 1, .int .i64 b, .slice none 0 0]] w fun e w' => e = .returned (.tuple #[.agg #[.int .i64 0, .int .i64 0, .slice none 0 0], .int .i64 3]) ∧ Below w.heap.size w w')) (K5 : Hid (∀ w, Calls Try.prog 10 #[.string ⟨#[43]⟩, .agg #[.int .i64 1, .int .i64 b, .slice none 0 0], .agg #[.int .i64 1, .int .i64 a, .slice none 0 0]] w fun e w' => e = .returned (.tuple #[.agg #[.int .i64 0, .int .i64 0, .slice none 0 0], .int .i64 3]) ∧ Below w.heap.size w w')) :
    Calls Try.prog 3 #[.int .i64 a, .int .i64 b] w fun e w' => e = .returned (.bool true) ∧ Below w.heap.size w w' := by
  go_enter Try.func3, Try.ntmps3
  go_wp2_with fail
  refine (head_any _).mono ?_
  rintro e w1 ⟨rfl, hb1⟩
  have bb1 := hb1
  go_wp2_with fail
  refine (num_any _ _).mono ?_
  rintro e w2 ⟨rfl, hb2⟩
  have bb2 := below_step bb1 hb2
  go_wp2_with fail
  refine (num_any _ _).mono ?_
  rintro e w3 ⟨rfl, hb3⟩
  have bb3 := below_step bb2 hb3
  go_wp2_with fail
  refine (K1.out _).mono ?_
  rintro e w4 ⟨rfl, hb4⟩
  have bb4 := below_step bb3 hb4
  go_wp2_with fail
  refine (num_any _ _).mono ?_
  rintro e w5 ⟨rfl, hb5⟩
  have S0 := var_on hb5 0 _ rfl
  have S1 := var_on hb5 1 _ rfl
  have S2 := var_on hb5 2 _ rfl
  have bb5 := below_step (below_step bb4 (below_alloc _ _)) hb5
  go_wp2_with fail
  refine (num_any _ _).mono ?_
  rintro e w6 ⟨rfl, hb6⟩
  have S0 := cell_on hb6 S0
  have S1 := cell_on hb6 S1
  have S2 := cell_on hb6 S2
  have bb6 := below_step bb5 hb6
  go_wp2_with fail
  refine (K2.out _).mono ?_
  rintro e w7 ⟨rfl, hb7⟩
  have S0 := cell_on hb7 S0
  have S1 := cell_on hb7 S1
  have S2 := cell_on hb7 S2
  have bb7 := below_step bb6 hb7
  go_wp2_with fail
  refine (num_any _ _).mono ?_
  rintro e w8 ⟨rfl, hb8⟩
  have S0 := cell_up hb8 S0
  have S1 := cell_up hb8 S1
  have S2 := cell_up hb8 S2
  have D0 := var_on hb8 0 _ rfl
  have D1 := var_on hb8 1 _ rfl
  have D2 := var_on hb8 2 _ rfl
  have bb8 := below_step (below_step bb7 (below_alloc _ _)) hb8
  go_wp2_with fail
  refine (num_any _ _).mono ?_
  rintro e w9 ⟨rfl, hb9⟩
  have S0 := cell_on hb9 S0
  have S1 := cell_on hb9 S1
  have S2 := cell_on hb9 S2
  have D0 := cell_on hb9 D0
  have D1 := cell_on hb9 D1
  have D2 := cell_on hb9 D2
  have bb9 := below_step bb8 hb9
  go_wp2_with fail
  refine (K5.out _).mono ?_
  rintro e w10 ⟨rfl, hb10⟩
  have S0 := cell_on hb10 S0
  have S1 := cell_on hb10 S1
  have S2 := cell_on hb10 S2
  have D0 := cell_on hb10 D0
  have D1 := cell_on hb10 D1
  have D2 := cell_on hb10 D2
  have bb10 := below_step bb9 hb10
  have S0u := fun o => cell_on (below_alloc w10 o) S0
  have S1u := fun o => cell_on (below_alloc w10 o) S1
  have S2u := fun o => cell_on (below_alloc w10 o) S2
  go_wp2_with fail
  refine (rsame_yes (l := []) 0 0 (Rd.nil _ _) (Rd.nil _ _)).mono ?_
  rintro e wz ⟨rfl, hbz⟩
  go_wp2_with fail
  go_ret
  exact ⟨rfl, below_step (below_step bb10 (below_alloc _ _)) hbz⟩
theorem undoes_law (a b : Int) (w : World) (ha : -9223372036854775808 ≤ a ∧ a < 9223372036854775808) (hb : -9223372036854775808 ≤ b ∧ b < 9223372036854775808) :
    Calls Try.prog 3 #[.int .i64 a, .int .i64 b] w fun e w' => e = .returned (.bool true) ∧ Below w.heap.size w w' := by
  have e5 : b + a = a + b := Int.add_comm b a
  by_cases h1 : -9223372036854775808 ≤ a + b ∧ a + b < 9223372036854775808
  · have K1 := hid (fun w => t_plus (A := none) (B := none) (n := 0) (m := 0) (c := 0) (d := 0) a b w ha hb h1)
    have K5 := hid (fun w => t_plus (A := none) (B := none) (n := 0) (m := 0) (c := 0) (d := 0) b a w hb ha (by omega))
    have K3 := hid (fun w => t_minus (A := none) (B := none) (n := 0) (m := 0) (c := 0) (d := 0) (a + b) b w h1 hb (by omega))
    rw [e5] at K5
    rw [show a + b - b = a by omega] at K3
    by_cases h2 : -9223372036854775808 ≤ a - b ∧ a - b < 9223372036854775808
    · have K2 := hid (fun w => t_minus (A := none) (B := none) (n := 0) (m := 0) (c := 0) (d := 0) a b w ha hb h2)
      have K4 := hid (fun w => t_plus (A := none) (B := none) (n := 0) (m := 0) (c := 0) (d := 0) (a - b) b w h2 hb (by omega))
      rw [show a - b + b = a by omega] at K4
      exact undoes_11 a b _ _ w K1 K2 K5 K3 K4
    · have K2 := hid (fun w => t_minus_no (A := none) (B := none) (n := 0) (m := 0) (c := 0) (d := 0) a b w ha hb h2)
      exact undoes_10 a b _ w K1 K2 K5 K3
  · have K1 := hid (fun w => t_plus_no (A := none) (B := none) (n := 0) (m := 0) (c := 0) (d := 0) a b w ha hb h1)
    have K5 := hid (fun w => t_plus_no (A := none) (B := none) (n := 0) (m := 0) (c := 0) (d := 0) b a w hb ha (by omega))
    by_cases h2 : -9223372036854775808 ≤ a - b ∧ a - b < 9223372036854775808
    · have K2 := hid (fun w => t_minus (A := none) (B := none) (n := 0) (m := 0) (c := 0) (d := 0) a b w ha hb h2)
      have K4 := hid (fun w => t_plus (A := none) (B := none) (n := 0) (m := 0) (c := 0) (d := 0) (a - b) b w h2 hb (by omega))
      rw [show a - b + b = a by omega] at K4
      exact undoes_01 a b _ w K1 K2 K5 K4
    · have K2 := hid (fun w => t_minus_no (A := none) (B := none) (n := 0) (m := 0) (c := 0) (d := 0) a b w ha hb h2)
      exact undoes_00 a b w K1 K2 K5
end Go.Proofs.Yteioiebkielaeaa
