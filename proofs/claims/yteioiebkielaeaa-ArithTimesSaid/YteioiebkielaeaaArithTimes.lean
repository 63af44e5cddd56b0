import Derived.Test.YteioiebkielaeaaArithK
namespace Go.Proofs.Yteioiebkielaeaa
open Go.RowKit Go.Cov Go.Lib
set_option maxRecDepth 100000 in
set_option maxHeartbeats 3200000 in
theorem times_early (a b c k1 n1 e1 k2 n2 e2 k3 n3 e3 : Int) (w : World) (h : (e1 != 0) = true ∧ True ∧ True ∨ (e1 != 0) = false ∧ (e2 != 0) = true ∧ True ∨ (e1 != 0) = false ∧ (e2 != 0) = false ∧ (e3 != 0) = true) (K1 : Hid (∀ w, Calls Try.prog 10 #[.string ⟨#[42]⟩, .agg #[.int .i64 1, .int .i64 a, .slice none 0 0], .agg #[.int .i64 1, .int .i64 b, .slice none 0 0]] w fun e w' => e = .returned (.tuple #[.agg #[.int .i64 k1, .int .i64 n1, .slice none 0 0], .int .i64 e1]) ∧ Below w.heap.size w w')) (K2 : Hid (∀ w, Calls Try.prog 10 #[.string ⟨#[42]⟩, .agg #[.int .i64 1, .int .i64 b, .slice none 0 0], .agg #[.int .i64 1, .int .i64 a, .slice none 0 0]] w fun e w' => e = .returned (.tuple #[.agg #[.int .i64 k1, .int .i64 n1, .slice none 0 0], .int .i64 e1]) ∧ Below w.heap.size w w')) (K3 : Hid (∀ w, Calls Try.prog 10 #[.string ⟨#[43]⟩, .agg #[.int .i64 1, .int .i64 b, .slice none 0 0], .agg #[.int .i64 1, .int .i64 c, .slice none 0 0]] w fun e w' => e = .returned (.tuple #[.agg #[.int .i64 k2, .int .i64 n2, .slice none 0 0], .int .i64 e2]) ∧ Below w.heap.size w w')) (K4 : Hid (∀ w, Calls Try.prog 10 #[.string ⟨#[42]⟩, .agg #[.int .i64 1, .int .i64 a, .slice none 0 0], .agg #[.int .i64 1, .int .i64 c, .slice none 0 0]] w fun e w' => e = .returned (.tuple #[.agg #[.int .i64 k3, .int .i64 n3, .slice none 0 0], .int .i64 e3]) ∧ Below w.heap.size w w')) :
    Calls Try.prog 8 #[.int .i64 a, .int .i64 b, .int .i64 c] w fun e w' => e = .returned (.bool true) ∧ Below w.heap.size w w' := by
  have z1 : (e1 != e1) = false := by simp
  have H := hid h
  clear h
  go_enter Try.func8, Try.ntmps8
  go_wp2_with fail
  refine (head_any _).mono ?_
  rintro e w1 ⟨rfl, hb1⟩
  have bb1 := hb1
  go_wp2_with fail
  refine (num_any _ _).mono ?_
  rintro e w2 ⟨rfl, hb2⟩
  have bb2 := below_step bb1 hb2
  go_wp2_with fail
  refine (num_any _ _).mono ?_
  rintro e w3 ⟨rfl, hb3⟩
  have bb3 := below_step bb2 hb3
  go_wp2_with fail
  refine (K1.out _).mono ?_
  rintro e w4 ⟨rfl, hb4⟩
  have bb4 := below_step bb3 hb4
  go_wp2_with fail
  refine (num_any _ _).mono ?_
  rintro e w5 ⟨rfl, hb5⟩
  have S0 := var_on hb5 0 _ rfl
  have S1 := var_on hb5 1 _ rfl
  have S2 := var_on hb5 2 _ rfl
  have bb5 := below_step (below_step bb4 (below_alloc _ _)) hb5
  go_wp2_with fail
  refine (num_any _ _).mono ?_
  rintro e w6 ⟨rfl, hb6⟩
  have S0 := cell_on hb6 S0
  have S1 := cell_on hb6 S1
  have S2 := cell_on hb6 S2
  have bb6 := below_step bb5 hb6
  go_wp2_with fail
  refine (K2.out _).mono ?_
  rintro e w7 ⟨rfl, hb7⟩
  have S0 := cell_on hb7 S0
  have S1 := cell_on hb7 S1
  have S2 := cell_on hb7 S2
  have bb7 := below_step bb6 hb7
  have S0u := fun o => cell_on (below_alloc w7 o) S0
  have S1u := fun o => cell_on (below_alloc w7 o) S1
  have S2u := fun o => cell_on (below_alloc w7 o) S2
  go_wp2_with fail
  refine (rsame_yes (l := []) _ _ (Rd.nil _ _) (Rd.nil _ _)).mono ?_
  rintro e w8 ⟨rfl, hb8⟩
  have S0 := cell_up hb8 S0
  have S1 := cell_up hb8 S1
  have S2 := cell_up hb8 S2
  have Y0 := var_on hb8 0 _ rfl
  have Y1 := var_on hb8 1 _ rfl
  have Y2 := var_on hb8 2 _ rfl
  have bb8 := below_step (below_step bb7 (below_alloc _ _)) hb8
  go_wp2_with fail
  refine (num_any _ _).mono ?_
  rintro e w9 ⟨rfl, hb9⟩
  have S0 := cell_on hb9 S0
  have S1 := cell_on hb9 S1
  have S2 := cell_on hb9 S2
  have Y0 := cell_on hb9 Y0
  have Y1 := cell_on hb9 Y1
  have Y2 := cell_on hb9 Y2
  have bb9 := below_step bb8 hb9
  go_wp2_with fail
  refine (num_any _ _).mono ?_
  rintro e w10 ⟨rfl, hb10⟩
  have S0 := cell_on hb10 S0
  have S1 := cell_on hb10 S1
  have S2 := cell_on hb10 S2
  have Y0 := cell_on hb10 Y0
  have Y1 := cell_on hb10 Y1
  have Y2 := cell_on hb10 Y2
  have bb10 := below_step bb9 hb10
  go_wp2_with fail
  refine (K3.out _).mono ?_
  rintro e w11 ⟨rfl, hb11⟩
  have S0 := cell_on hb11 S0
  have S1 := cell_on hb11 S1
  have S2 := cell_on hb11 S2
  have Y0 := cell_on hb11 Y0
  have Y1 := cell_on hb11 Y1
  have Y2 := cell_on hb11 Y2
  have bb11 := below_step bb10 hb11
  go_wp2_with fail
  refine (num_any _ _).mono ?_
  rintro e w12 ⟨rfl, hb12⟩
  have S0 := cell_up hb12 S0
  have S1 := cell_up hb12 S1
  have S2 := cell_up hb12 S2
  have Y0 := cell_up hb12 Y0
  have Y1 := cell_up hb12 Y1
  have Y2 := cell_up hb12 Y2
  have B0 := var_on hb12 0 _ rfl
  have B1 := var_on hb12 1 _ rfl
  have B2 := var_on hb12 2 _ rfl
  have bb12 := below_step (below_step bb11 (below_alloc _ _)) hb12
  go_wp2_with fail
  refine (num_any _ _).mono ?_
  rintro e w13 ⟨rfl, hb13⟩
  have S0 := cell_on hb13 S0
  have S1 := cell_on hb13 S1
  have S2 := cell_on hb13 S2
  have Y0 := cell_on hb13 Y0
  have Y1 := cell_on hb13 Y1
  have Y2 := cell_on hb13 Y2
  have B0 := cell_on hb13 B0
  have B1 := cell_on hb13 B1
  have B2 := cell_on hb13 B2
  have bb13 := below_step bb12 hb13
  go_wp2_with fail
  refine (K4.out _).mono ?_
  rintro e w14 ⟨rfl, hb14⟩
  have S0 := cell_on hb14 S0
  have S1 := cell_on hb14 S1
  have S2 := cell_on hb14 S2
  have Y0 := cell_on hb14 Y0
  have Y1 := cell_on hb14 Y1
  have Y2 := cell_on hb14 Y2
  have B0 := cell_on hb14 B0
  have B1 := cell_on hb14 B1
  have B2 := cell_on hb14 B2
  have bb14 := below_step bb13 hb14
  rcases H.out with ⟨h1, h2, h3⟩ | ⟨h1, h2, h3⟩ | ⟨h1, h2, h3⟩
  all_goals
    go_wp2_with fail
    go_ret
    exact ⟨rfl, below_step bb14 (below_alloc _ _)⟩
set_option maxRecDepth 100000 in
set_option maxHeartbeats 6400000 in
theorem times_main (a b c k1 n1 k2 n2 k3 n3 k4 n4 e4 : Int) (w : World) (K1 : Hid (∀ w, Calls Try.prog 10 #[.string ⟨#[42]⟩, .agg #[.int .i64 1, .int .i64 a, .slice none 0 0], .agg #[.int .i64 1, .int .i64 b, .slice none 0 0]] w fun e w' => e = .returned (.tuple #[.agg #[.int .i64 k1, .int .i64 n1, .slice none 0 0], .int .i64 0]) ∧ Below w.heap.size w w')) (K2 : Hid (∀ w, Calls Try.prog 10 #[.string ⟨#[42]⟩, .agg #[.int .i64 1, .int .i64 b, .slice none 0 0], .agg #[.int .i64 1, .int .i64 a, .slice none 0 0]] w fun e w' => e = .returned (.tuple #[.agg #[.int .i64 k1, .int .i64 n1, .slice none 0 0], .int .i64 0]) ∧ Below w.heap.size w w')) (K3 : Hid (∀ w, Calls Try.prog 10 #[.string ⟨#[43]⟩, .agg #[.int .i64 1, .int .i64 b, .slice none 0 0], .agg #[.int .i64 1, .int .i64 c, .slice none 0 0]] w fun e w' => e = .returned (.tuple #[.agg #[.int .i64 k2, .int .i64 n2, .slice none 0 0], .int .i64 0]) ∧ Below w.heap.size w w')) (K4 : Hid (∀ w, Calls Try.prog 10 #[.string ⟨#[42]⟩, .agg #[.int .i64 1, .int .i64 a, .slice none 0 0], .agg #[.int .i64 1, .int .i64 c, .slice none 0 0]] w fun e w' => e = .returned (.tuple #[.agg #[.int .i64 k3, .int .i64 n3, .slice none 0 0], .int .i64 0]) ∧ Below w.heap.size w w')) (K5 : Hid (∀ w, Calls Try.prog 10 #[.string ⟨#[42]⟩, .agg #[.int .i64 1, .int .i64 a, .slice none 0 0], .agg #[.int .i64 k2, .int .i64 n2, .slice none 0 0]] w fun e w' => e = .returned (.tuple #[.agg #[.int .i64 k4, .int .i64 n4, .slice none 0 0], .int .i64 e4]) ∧ Below w.heap.size w w')) (K6 : Hid (∀ w, Calls Try.prog 10 #[.string ⟨#[43]⟩, .agg #[.int .i64 k1, .int .i64 n1, .slice none 0 0], .agg #[.int .i64 k3, .int .i64 n3, .slice none 0 0]] w fun e w' => e = .returned (.tuple #[.agg #[.int .i64 k4, .int .i64 n4, .slice none 0 0], .int .i64 e4]) ∧ Below w.heap.size w w')) :
    Calls Try.prog 8 #[.int .i64 a, .int .i64 b, .int .i64 c] w fun e w' => e = .returned (.bool true) ∧ Below w.heap.size w w' := by
  have z4 : (e4 == e4) = true := by simp
  go_enter Try.func8, Try.ntmps8
  go_wp2_with fail
  refine (head_any _).mono ?_
  rintro e w1 ⟨rfl, hb1⟩
  have bb1 := hb1
  go_wp2_with fail
  refine (num_any _ _).mono ?_
  rintro e w2 ⟨rfl, hb2⟩
  have bb2 := below_step bb1 hb2
  go_wp2_with fail
  refine (num_any _ _).mono ?_
  rintro e w3 ⟨rfl, hb3⟩
  have bb3 := below_step bb2 hb3
  go_wp2_with fail
  refine (K1.out _).mono ?_
  rintro e w4 ⟨rfl, hb4⟩
  have bb4 := below_step bb3 hb4
  go_wp2_with fail
  refine (num_any _ _).mono ?_
  rintro e w5 ⟨rfl, hb5⟩
  have S0 := var_on hb5 0 _ rfl
  have S1 := var_on hb5 1 _ rfl
  have S2 := var_on hb5 2 _ rfl
  have bb5 := below_step (below_step bb4 (below_alloc _ _)) hb5
  go_wp2_with fail
  refine (num_any _ _).mono ?_
  rintro e w6 ⟨rfl, hb6⟩
  have S0 := cell_on hb6 S0
  have S1 := cell_on hb6 S1
  have S2 := cell_on hb6 S2
  have bb6 := below_step bb5 hb6
  go_wp2_with fail
  refine (K2.out _).mono ?_
  rintro e w7 ⟨rfl, hb7⟩
  have S0 := cell_on hb7 S0
  have S1 := cell_on hb7 S1
  have S2 := cell_on hb7 S2
  have bb7 := below_step bb6 hb7
  have S0u := fun o => cell_on (below_alloc w7 o) S0
  have S1u := fun o => cell_on (below_alloc w7 o) S1
  have S2u := fun o => cell_on (below_alloc w7 o) S2
  go_wp2_with fail
  refine (rsame_yes (l := []) _ _ (Rd.nil _ _) (Rd.nil _ _)).mono ?_
  rintro e w8 ⟨rfl, hb8⟩
  have S0 := cell_up hb8 S0
  have S1 := cell_up hb8 S1
  have S2 := cell_up hb8 S2
  have Y0 := var_on hb8 0 _ rfl
  have Y1 := var_on hb8 1 _ rfl
  have Y2 := var_on hb8 2 _ rfl
  have bb8 := below_step (below_step bb7 (below_alloc _ _)) hb8
  go_wp2_with fail
  refine (num_any _ _).mono ?_
  rintro e w9 ⟨rfl, hb9⟩
  have S0 := cell_on hb9 S0
  have S1 := cell_on hb9 S1
  have S2 := cell_on hb9 S2
  have Y0 := cell_on hb9 Y0
  have Y1 := cell_on hb9 Y1
  have Y2 := cell_on hb9 Y2
  have bb9 := below_step bb8 hb9
  go_wp2_with fail
  refine (num_any _ _).mono ?_
  rintro e w10 ⟨rfl, hb10⟩
  have S0 := cell_on hb10 S0
  have S1 := cell_on hb10 S1
  have S2 := cell_on hb10 S2
  have Y0 := cell_on hb10 Y0
  have Y1 := cell_on hb10 Y1
  have Y2 := cell_on hb10 Y2
  have bb10 := below_step bb9 hb10
  go_wp2_with fail
  refine (K3.out _).mono ?_
  rintro e w11 ⟨rfl, hb11⟩
  have S0 := cell_on hb11 S0
  have S1 := cell_on hb11 S1
  have S2 := cell_on hb11 S2
  have Y0 := cell_on hb11 Y0
  have Y1 := cell_on hb11 Y1
  have Y2 := cell_on hb11 Y2
  have bb11 := below_step bb10 hb11
  go_wp2_with fail
  refine (num_any _ _).mono ?_
  rintro e w12 ⟨rfl, hb12⟩
  have S0 := cell_up hb12 S0
  have S1 := cell_up hb12 S1
  have S2 := cell_up hb12 S2
  have Y0 := cell_up hb12 Y0
  have Y1 := cell_up hb12 Y1
  have Y2 := cell_up hb12 Y2
  have B0 := var_on hb12 0 _ rfl
  have B1 := var_on hb12 1 _ rfl
  have B2 := var_on hb12 2 _ rfl
  have bb12 := below_step (below_step bb11 (below_alloc _ _)) hb12
  go_wp2_with fail
  refine (num_any _ _).mono ?_
  rintro e w13 ⟨rfl, hb13⟩
  have S0 := cell_on hb13 S0
  have S1 := cell_on hb13 S1
  have S2 := cell_on hb13 S2
  have Y0 := cell_on hb13 Y0
  have Y1 := cell_on hb13 Y1
  have Y2 := cell_on hb13 Y2
  have B0 := cell_on hb13 B0
  have B1 := cell_on hb13 B1
  have B2 := cell_on hb13 B2
  have bb13 := below_step bb12 hb13
  go_wp2_with fail
  refine (K4.out _).mono ?_
  rintro e w14 ⟨rfl, hb14⟩
  have S0 := cell_on hb14 S0
  have S1 := cell_on hb14 S1
  have S2 := cell_on hb14 S2
  have Y0 := cell_on hb14 Y0
  have Y1 := cell_on hb14 Y1
  have Y2 := cell_on hb14 Y2
  have B0 := cell_on hb14 B0
  have B1 := cell_on hb14 B1
  have B2 := cell_on hb14 B2
  have bb14 := below_step bb13 hb14
  go_upto_region 10 with fail
  obtain ⟨va, hva⟩ : ∃ va, w14.alloc (.cells #[.int .i64 k3, .int .i64 n3, .slice none 0 0] 26) = va := ⟨_, rfl⟩
  have S0 := cell_on (below_alloc w14 (.cells #[.int .i64 k3, .int .i64 n3, .slice none 0 0] 26)) S0
  have S1 := cell_on (below_alloc w14 (.cells #[.int .i64 k3, .int .i64 n3, .slice none 0 0] 26)) S1
  have S2 := cell_on (below_alloc w14 (.cells #[.int .i64 k3, .int .i64 n3, .slice none 0 0] 26)) S2
  have Y0 := cell_on (below_alloc w14 (.cells #[.int .i64 k3, .int .i64 n3, .slice none 0 0] 26)) Y0
  have Y1 := cell_on (below_alloc w14 (.cells #[.int .i64 k3, .int .i64 n3, .slice none 0 0] 26)) Y1
  have Y2 := cell_on (below_alloc w14 (.cells #[.int .i64 k3, .int .i64 n3, .slice none 0 0] 26)) Y2
  have B0 := cell_on (below_alloc w14 (.cells #[.int .i64 k3, .int .i64 n3, .slice none 0 0] 26)) B0
  have B1 := cell_on (below_alloc w14 (.cells #[.int .i64 k3, .int .i64 n3, .slice none 0 0] 26)) B1
  have B2 := cell_on (below_alloc w14 (.cells #[.int .i64 k3, .int .i64 n3, .slice none 0 0] 26)) B2
  have Z0 := box_cell w14 #[.int .i64 k3, .int .i64 n3, .slice none 0 0] 26 0 _ rfl
  have Z1 := box_cell w14 #[.int .i64 k3, .int .i64 n3, .slice none 0 0] 26 1 _ rfl
  have Z2 := box_cell w14 #[.int .i64 k3, .int .i64 n3, .slice none 0 0] 26 2 _ rfl
  have bva := below_step bb14 (below_alloc w14 (.cells #[.int .i64 k3, .int .i64 n3, .slice none 0 0] 26))
  have zva : w14.heap.size < (w14.alloc (.cells #[.int .i64 k3, .int .i64 n3, .slice none 0 0] 26)).heap.size := by simp
  rw [hva] at S0 S1 S2 Y0 Y1 Y2 B0 B1 B2 Z0 Z1 Z2 bva zva ⊢
  clear hva
  go_cut [16, 17] (fun s16 s17 wx => ∃ b, s16 = .pointer (some ⟨b, 0, none⟩) ∧ s17 = .int .i64 e4 ∧ wx.cell? ⟨b, 0, none⟩ = some (.int .i64 k4) ∧ wx.cell? ⟨b, 1, none⟩ = some (.int .i64 n4) ∧ wx.cell? ⟨b, 2, none⟩ = some (.slice none 0 0) ∧ Below va.heap.size va wx)
  case first =>
    have S0q := fun W (hW : Below va.heap.size va W) => cell_on hW S0
    have S1q := fun W (hW : Below va.heap.size va W) => cell_on hW S1
    have S2q := fun W (hW : Below va.heap.size va W) => cell_on hW S2
    have Y0q := fun W (hW : Below va.heap.size va W) => cell_on hW Y0
    have Y1q := fun W (hW : Below va.heap.size va W) => cell_on hW Y1
    have Y2q := fun W (hW : Below va.heap.size va W) => cell_on hW Y2
    have B0q := fun W (hW : Below va.heap.size va W) => cell_on hW B0
    have B1q := fun W (hW : Below va.heap.size va W) => cell_on hW B1
    have B2q := fun W (hW : Below va.heap.size va W) => cell_on hW B2
    have Z0q := fun W (hW : Below va.heap.size va W) => cell_on hW Z0
    have Z1q := fun W (hW : Below va.heap.size va W) => cell_on hW Z1
    have Z2q := fun W (hW : Below va.heap.size va W) => cell_on hW Z2
    refine wp_region_noPanic ?_
    refine wp_region_held_drew (S := (fun W => Below va.heap.size va W)) (by kernel_rfl) ?_ (fun hHeld => ?_)
    · exact (Below.refl _ _).drew
    refine wpAnyH_take (i := 0) (oi := ?oi1) (v := ?v1) ?hi1 (by kernel_rfl) (by kernel_rfl) (by kernel_rfl) ?hQ1 ?hy1 (by assumption) ?hrest1
    case hi1 => (simp only [List.getElem?_toArray, List.getElem?_cons_zero]; try rfl)
    case hQ1 => exact fun _ _ _ h => h
    case hy1 =>
      refine Or.inl ⟨by rfl, ?_⟩
      (intro wq hSw; (try dsimp only at hSw); go_simp; try with_reducible rfl)
    (try simp only [Act.put, List.setIfInBounds_toArray, List.set_cons_zero, List.set_cons_succ])
    refine wpAnyH_take (i := 2) (oi := ?oi2) (v := ?v2) ?hi2 (by kernel_rfl) (by kernel_rfl) (by kernel_rfl) ?hQ2 ?hy2 (by assumption) ?hrest2
    case hi2 => (simp only [List.getElem?_toArray, List.getElem?_cons_succ, List.getElem?_cons_zero]; try rfl)
    case hQ2 => exact fun _ _ _ h => h
    case hy2 =>
      refine Or.inl ⟨by rfl, ?_⟩
      (intro wq hSw; (try dsimp only at hSw); go_simp; try with_reducible rfl)
    (try simp only [Act.put, List.setIfInBounds_toArray, List.set_cons_zero, List.set_cons_succ])
    refine wpAnyH_ready (rs := [1, 7]) (by kernel_rfl) (by simp) ?_
    refine AllReadyH.cons (o := ?oi3) ?hi3 (fun K hK => ?hstep3) ?hmore3
    case hi3 => (simp only [List.getElem?_toArray, List.getElem?_cons_succ, List.getElem?_cons_zero]; try rfl)
    case hstep3 =>
      go_simp
      (refine (num_any _ _).mono ?_; rintro e wx ⟨rfl, hbx⟩; (try have n0 := cell_on hbx n0); (try have f0 := froz_on hbx nz f0); (try have n1 := cell_on hbx n1); (try have f1 := froz_on hbx nz f1); (try have n2 := cell_on hbx n2); (try have f2 := froz_on hbx nz f2); (try have nz := Nat.lt_of_lt_of_le nz hbx.size))
      refine hK.out _ _ ?_ (fun hHeld => ?_)
      · exact below_step hHeld hbx
      clear hK K
      (try simp only [Act.put, List.setIfInBounds_toArray, List.set_cons_zero, List.set_cons_succ])
      refine wpAnyH_ready (rs := [3, 7]) (by kernel_rfl) (by simp) ?_
      refine AllReadyH.cons (o := ?oi4) ?hi4 (fun K hK => ?hstep4) ?hmore4
      case hi4 => (simp only [List.getElem?_toArray, List.getElem?_cons_succ, List.getElem?_cons_zero]; try rfl)
      case hstep4 =>
        go_simp
        (refine (K5.out _).mono ?_; rintro e wx ⟨rfl, hbx⟩; (try have n0 := cell_on hbx n0); (try have f0 := froz_on hbx nz f0); (try have n1 := cell_on hbx n1); (try have f1 := froz_on hbx nz f1); (try have n2 := cell_on hbx n2); (try have f2 := froz_on hbx nz f2); (try have nz := Nat.lt_of_lt_of_le nz hbx.size))
        refine hK.out _ _ ?_ (fun hHeld => ?_)
        · exact below_step hHeld hbx
        clear hK K
        (try simp only [Act.put, List.setIfInBounds_toArray, List.set_cons_zero, List.set_cons_succ])
        refine wpAnyH_take (i := 4) (oi := ?oi5) (v := ?v5) ?hi5 (by kernel_rfl) (by kernel_rfl) (by kernel_rfl) ?hQ5 ?hy5 (by assumption) ?hrest5
        case hi5 => (simp only [List.getElem?_toArray, List.getElem?_cons_succ, List.getElem?_cons_zero]; try rfl)
        case hQ5 => exact fun _ _ _ h => h
        case hy5 =>
          refine Or.inl ⟨by rfl, ?_⟩
          (intro wq hSw; (try dsimp only at hSw); go_simp; try with_reducible rfl)
        (try simp only [Act.put, List.setIfInBounds_toArray, List.set_cons_zero, List.set_cons_succ])
        refine wpAnyH_take (i := 5) (oi := ?oi6) (v := ?v6) ?hi6 (by kernel_rfl) (by kernel_rfl) (by kernel_rfl) ?hQ6 ?hy6 (by assumption) ?hrest6
        case hi6 => (simp only [List.getElem?_toArray, List.getElem?_cons_succ, List.getElem?_cons_zero]; try rfl)
        case hQ6 => exact fun _ _ _ h => h
        case hy6 =>
          refine Or.inl ⟨by rfl, ?_⟩
          (intro wq hSw; (try dsimp only at hSw); go_simp; try with_reducible rfl)
        (try simp only [Act.put, List.setIfInBounds_toArray, List.set_cons_zero, List.set_cons_succ])
        refine wpAnyH_take (i := 6) (oi := ?oi7) (v := ?v7) ?hi7 (by kernel_rfl) (by kernel_rfl) (by kernel_rfl) ?hQ7 ?hy7 (by assumption) ?hrest7
        case hi7 => (simp only [List.getElem?_toArray, List.getElem?_cons_succ, List.getElem?_cons_zero]; try rfl)
        case hQ7 => exact fun _ _ _ h => h
        case hy7 =>
          refine Or.inl ⟨by rfl, ?_⟩
          (intro wq hSw; (try dsimp only at hSw); go_simp; try with_reducible rfl)
        (try simp only [Act.put, List.setIfInBounds_toArray, List.set_cons_zero, List.set_cons_succ])
        refine wpAnyH_ready (rs := [7]) (by kernel_rfl) (by simp) ?_
        refine AllReadyH.cons (o := ?oi8) ?hi8 (fun K hK => ?hstep8) AllReadyH.nil
        case hi8 => (simp only [List.getElem?_toArray, List.getElem?_cons_succ, List.getElem?_cons_zero]; try rfl)
        go_simp
        (have hvb := hHeld.size; (first | refine newvar_Kd ?_ | refine newvar_K ?_); intro wx hbx nv nf nz; have n0 := nv 0 _ rfl; have n1 := nv 1 _ rfl; have n2 := nv 2 _ rfl; have f0 := nf 0; have f1 := nf 1; have f2 := nf 2; clear nv nf)
        refine hK.out _ _ ?_ (fun hHeld => ?_)
        · exact below_step hHeld hbx
        clear hK K
        (try simp only [Act.put, List.setIfInBounds_toArray, List.set_cons_zero, List.set_cons_succ])
        refine wpAnyH_ready (rs := [8]) (by kernel_rfl) (by simp) ?_
        refine AllReadyH.cons (o := ?oi9) ?hi9 (fun K hK => ?hstep9) AllReadyH.nil
        case hi9 => (simp only [List.getElem?_toArray, List.getElem?_cons_succ, List.getElem?_cons_zero]; try rfl)
        go_simp
        (obtain ⟨z0, z1, z2⟩ := set3_cells n0 n1 n2 (.int .i64 k4) (.int .i64 n4) (.slice none 0 0))
        refine hK.out _ _ ?_ (fun hHeld => ?_)
        · exact below_set3 hHeld hvb
        clear hK K
        (try simp only [Act.put, List.setIfInBounds_toArray, List.set_cons_zero, List.set_cons_succ])
        refine wpAnyH_take (i := 9) (oi := ?oi10) (v := ?v10) ?hi10 (by kernel_rfl) (by kernel_rfl) (by kernel_rfl) ?hQ10 ?hy10 (by assumption) ?hrest10
        case hi10 => (simp only [List.getElem?_toArray, List.getElem?_cons_succ, List.getElem?_cons_zero]; try rfl)
        case hQ10 => exact fun _ _ _ h => h
        case hy10 =>
          refine Or.inl ⟨by rfl, ?_⟩
          (intro wq hSw; (try dsimp only at hSw); go_simp; try with_reducible rfl)
        (try simp only [Act.put, List.setIfInBounds_toArray, List.set_cons_zero, List.set_cons_succ])
        refine wpAnyH_done (by kernel_rfl) ?_ _
        refine NoPanic.normal ?_
        (go_wp2_with fail; go_meet; exact ⟨_, rfl, rfl, z0, z1, z2, hHeld⟩)
      refine AllReadyH.cons (o := ?oi11) ?hi11 (fun K hK => ?hstep11) ?hmore11
      case hi11 => (simp only [List.getElem?_toArray, List.getElem?_cons_succ, List.getElem?_cons_zero]; try rfl)
      case hstep11 =>
        go_simp
        (have hvb := hHeld.size; (first | refine newvar_Kd ?_ | refine newvar_K ?_); intro wx hbx nv nf nz; have n0 := nv 0 _ rfl; have n1 := nv 1 _ rfl; have n2 := nv 2 _ rfl; have f0 := nf 0; have f1 := nf 1; have f2 := nf 2; clear nv nf)
        refine hK.out _ _ ?_ (fun hHeld => ?_)
        · exact below_step hHeld hbx
        clear hK K
        (try simp only [Act.put, List.setIfInBounds_toArray, List.set_cons_zero, List.set_cons_succ])
        refine wpAnyH_ready (rs := [3]) (by kernel_rfl) (by simp) ?_
        refine AllReadyH.cons (o := ?oi12) ?hi12 (fun K hK => ?hstep12) AllReadyH.nil
        case hi12 => (simp only [List.getElem?_toArray, List.getElem?_cons_succ, List.getElem?_cons_zero]; try rfl)
        go_simp
        (refine (K5.out _).mono ?_; rintro e wx ⟨rfl, hbx⟩; (try have n0 := cell_on hbx n0); (try have f0 := froz_on hbx nz f0); (try have n1 := cell_on hbx n1); (try have f1 := froz_on hbx nz f1); (try have n2 := cell_on hbx n2); (try have f2 := froz_on hbx nz f2); (try have nz := Nat.lt_of_lt_of_le nz hbx.size))
        refine hK.out _ _ ?_ (fun hHeld => ?_)
        · exact below_step hHeld hbx
        clear hK K
        (try simp only [Act.put, List.setIfInBounds_toArray, List.set_cons_zero, List.set_cons_succ])
        refine wpAnyH_take (i := 4) (oi := ?oi13) (v := ?v13) ?hi13 (by kernel_rfl) (by kernel_rfl) (by kernel_rfl) ?hQ13 ?hy13 (by assumption) ?hrest13
        case hi13 => (simp only [List.getElem?_toArray, List.getElem?_cons_succ, List.getElem?_cons_zero]; try rfl)
        case hQ13 => exact fun _ _ _ h => h
        case hy13 =>
          refine Or.inl ⟨by rfl, ?_⟩
          (intro wq hSw; (try dsimp only at hSw); go_simp; try with_reducible rfl)
        (try simp only [Act.put, List.setIfInBounds_toArray, List.set_cons_zero, List.set_cons_succ])
        refine wpAnyH_take (i := 5) (oi := ?oi14) (v := ?v14) ?hi14 (by kernel_rfl) (by kernel_rfl) (by kernel_rfl) ?hQ14 ?hy14 (by assumption) ?hrest14
        case hi14 => (simp only [List.getElem?_toArray, List.getElem?_cons_succ, List.getElem?_cons_zero]; try rfl)
        case hQ14 => exact fun _ _ _ h => h
        case hy14 =>
          refine Or.inl ⟨by rfl, ?_⟩
          (intro wq hSw; (try dsimp only at hSw); go_simp; try with_reducible rfl)
        (try simp only [Act.put, List.setIfInBounds_toArray, List.set_cons_zero, List.set_cons_succ])
        refine wpAnyH_take (i := 6) (oi := ?oi15) (v := ?v15) ?hi15 (by kernel_rfl) (by kernel_rfl) (by kernel_rfl) ?hQ15 ?hy15 (by assumption) ?hrest15
        case hi15 => (simp only [List.getElem?_toArray, List.getElem?_cons_succ, List.getElem?_cons_zero]; try rfl)
        case hQ15 => exact fun _ _ _ h => h
        case hy15 =>
          refine Or.inl ⟨by rfl, ?_⟩
          (intro wq hSw; (try dsimp only at hSw); go_simp; try with_reducible rfl)
        (try simp only [Act.put, List.setIfInBounds_toArray, List.set_cons_zero, List.set_cons_succ])
        refine wpAnyH_ready (rs := [8]) (by kernel_rfl) (by simp) ?_
        refine AllReadyH.cons (o := ?oi16) ?hi16 (fun K hK => ?hstep16) AllReadyH.nil
        case hi16 => (simp only [List.getElem?_toArray, List.getElem?_cons_succ, List.getElem?_cons_zero]; try rfl)
        go_simp
        (obtain ⟨z0, z1, z2⟩ := set3_cells n0 n1 n2 (.int .i64 k4) (.int .i64 n4) (.slice none 0 0))
        refine hK.out _ _ ?_ (fun hHeld => ?_)
        · exact below_set3 hHeld hvb
        clear hK K
        (try simp only [Act.put, List.setIfInBounds_toArray, List.set_cons_zero, List.set_cons_succ])
        refine wpAnyH_take (i := 9) (oi := ?oi17) (v := ?v17) ?hi17 (by kernel_rfl) (by kernel_rfl) (by kernel_rfl) ?hQ17 ?hy17 (by assumption) ?hrest17
        case hi17 => (simp only [List.getElem?_toArray, List.getElem?_cons_succ, List.getElem?_cons_zero]; try rfl)
        case hQ17 => exact fun _ _ _ h => h
        case hy17 =>
          refine Or.inl ⟨by rfl, ?_⟩
          (intro wq hSw; (try dsimp only at hSw); go_simp; try with_reducible rfl)
        (try simp only [Act.put, List.setIfInBounds_toArray, List.set_cons_zero, List.set_cons_succ])
        refine wpAnyH_done (by kernel_rfl) ?_ _
        refine NoPanic.normal ?_
        (go_wp2_with fail; go_meet; exact ⟨_, rfl, rfl, z0, z1, z2, hHeld⟩)
      exact AllReadyH.nil
    refine AllReadyH.cons (o := ?oi18) ?hi18 (fun K hK => ?hstep18) ?hmore18
    case hi18 => (simp only [List.getElem?_toArray, List.getElem?_cons_succ, List.getElem?_cons_zero]; try rfl)
    case hstep18 =>
      go_simp
      (have hvb := hHeld.size; (first | refine newvar_Kd ?_ | refine newvar_K ?_); intro wx hbx nv nf nz; have n0 := nv 0 _ rfl; have n1 := nv 1 _ rfl; have n2 := nv 2 _ rfl; have f0 := nf 0; have f1 := nf 1; have f2 := nf 2; clear nv nf)
      refine hK.out _ _ ?_ (fun hHeld => ?_)
      · exact below_step hHeld hbx
      clear hK K
      (try simp only [Act.put, List.setIfInBounds_toArray, List.set_cons_zero, List.set_cons_succ])
      refine wpAnyH_ready (rs := [1]) (by kernel_rfl) (by simp) ?_
      refine AllReadyH.cons (o := ?oi19) ?hi19 (fun K hK => ?hstep19) AllReadyH.nil
      case hi19 => (simp only [List.getElem?_toArray, List.getElem?_cons_succ, List.getElem?_cons_zero]; try rfl)
      go_simp
      (refine (num_any _ _).mono ?_; rintro e wx ⟨rfl, hbx⟩; (try have n0 := cell_on hbx n0); (try have f0 := froz_on hbx nz f0); (try have n1 := cell_on hbx n1); (try have f1 := froz_on hbx nz f1); (try have n2 := cell_on hbx n2); (try have f2 := froz_on hbx nz f2); (try have nz := Nat.lt_of_lt_of_le nz hbx.size))
      refine hK.out _ _ ?_ (fun hHeld => ?_)
      · exact below_step hHeld hbx
      clear hK K
      (try simp only [Act.put, List.setIfInBounds_toArray, List.set_cons_zero, List.set_cons_succ])
      refine wpAnyH_ready (rs := [3]) (by kernel_rfl) (by simp) ?_
      refine AllReadyH.cons (o := ?oi20) ?hi20 (fun K hK => ?hstep20) AllReadyH.nil
      case hi20 => (simp only [List.getElem?_toArray, List.getElem?_cons_succ, List.getElem?_cons_zero]; try rfl)
      go_simp
      (refine (K5.out _).mono ?_; rintro e wx ⟨rfl, hbx⟩; (try have n0 := cell_on hbx n0); (try have f0 := froz_on hbx nz f0); (try have n1 := cell_on hbx n1); (try have f1 := froz_on hbx nz f1); (try have n2 := cell_on hbx n2); (try have f2 := froz_on hbx nz f2); (try have nz := Nat.lt_of_lt_of_le nz hbx.size))
      refine hK.out _ _ ?_ (fun hHeld => ?_)
      · exact below_step hHeld hbx
      clear hK K
      (try simp only [Act.put, List.setIfInBounds_toArray, List.set_cons_zero, List.set_cons_succ])
      refine wpAnyH_take (i := 4) (oi := ?oi21) (v := ?v21) ?hi21 (by kernel_rfl) (by kernel_rfl) (by kernel_rfl) ?hQ21 ?hy21 (by assumption) ?hrest21
      case hi21 => (simp only [List.getElem?_toArray, List.getElem?_cons_succ, List.getElem?_cons_zero]; try rfl)
      case hQ21 => exact fun _ _ _ h => h
      case hy21 =>
        refine Or.inl ⟨by rfl, ?_⟩
        (intro wq hSw; (try dsimp only at hSw); go_simp; try with_reducible rfl)
      (try simp only [Act.put, List.setIfInBounds_toArray, List.set_cons_zero, List.set_cons_succ])
      refine wpAnyH_take (i := 5) (oi := ?oi22) (v := ?v22) ?hi22 (by kernel_rfl) (by kernel_rfl) (by kernel_rfl) ?hQ22 ?hy22 (by assumption) ?hrest22
      case hi22 => (simp only [List.getElem?_toArray, List.getElem?_cons_succ, List.getElem?_cons_zero]; try rfl)
      case hQ22 => exact fun _ _ _ h => h
      case hy22 =>
        refine Or.inl ⟨by rfl, ?_⟩
        (intro wq hSw; (try dsimp only at hSw); go_simp; try with_reducible rfl)
      (try simp only [Act.put, List.setIfInBounds_toArray, List.set_cons_zero, List.set_cons_succ])
      refine wpAnyH_take (i := 6) (oi := ?oi23) (v := ?v23) ?hi23 (by kernel_rfl) (by kernel_rfl) (by kernel_rfl) ?hQ23 ?hy23 (by assumption) ?hrest23
      case hi23 => (simp only [List.getElem?_toArray, List.getElem?_cons_succ, List.getElem?_cons_zero]; try rfl)
      case hQ23 => exact fun _ _ _ h => h
      case hy23 =>
        refine Or.inl ⟨by rfl, ?_⟩
        (intro wq hSw; (try dsimp only at hSw); go_simp; try with_reducible rfl)
      (try simp only [Act.put, List.setIfInBounds_toArray, List.set_cons_zero, List.set_cons_succ])
      refine wpAnyH_ready (rs := [8]) (by kernel_rfl) (by simp) ?_
      refine AllReadyH.cons (o := ?oi24) ?hi24 (fun K hK => ?hstep24) AllReadyH.nil
      case hi24 => (simp only [List.getElem?_toArray, List.getElem?_cons_succ, List.getElem?_cons_zero]; try rfl)
      go_simp
      (obtain ⟨z0, z1, z2⟩ := set3_cells n0 n1 n2 (.int .i64 k4) (.int .i64 n4) (.slice none 0 0))
      refine hK.out _ _ ?_ (fun hHeld => ?_)
      · exact below_set3 hHeld hvb
      clear hK K
      (try simp only [Act.put, List.setIfInBounds_toArray, List.set_cons_zero, List.set_cons_succ])
      refine wpAnyH_take (i := 9) (oi := ?oi25) (v := ?v25) ?hi25 (by kernel_rfl) (by kernel_rfl) (by kernel_rfl) ?hQ25 ?hy25 (by assumption) ?hrest25
      case hi25 => (simp only [List.getElem?_toArray, List.getElem?_cons_succ, List.getElem?_cons_zero]; try rfl)
      case hQ25 => exact fun _ _ _ h => h
      case hy25 =>
        refine Or.inl ⟨by rfl, ?_⟩
        (intro wq hSw; (try dsimp only at hSw); go_simp; try with_reducible rfl)
      (try simp only [Act.put, List.setIfInBounds_toArray, List.set_cons_zero, List.set_cons_succ])
      refine wpAnyH_done (by kernel_rfl) ?_ _
      refine NoPanic.normal ?_
      (go_wp2_with fail; go_meet; exact ⟨_, rfl, rfl, z0, z1, z2, hHeld⟩)
    exact AllReadyH.nil
  case rest =>
    obtain ⟨Xb, rfl, rfl, X0, X1, X2, hbx⟩ := hcut
    have S0 := cell_on hbx S0
    have S1 := cell_on hbx S1
    have S2 := cell_on hbx S2
    have Y0 := cell_on hbx Y0
    have Y1 := cell_on hbx Y1
    have Y2 := cell_on hbx Y2
    have B0 := cell_on hbx B0
    have B1 := cell_on hbx B1
    have B2 := cell_on hbx B2
    have Z0 := cell_on hbx Z0
    have Z1 := cell_on hbx Z1
    have Z2 := cell_on hbx Z2
    have bcx := below_step bva hbx
    generalize wc = wdx at S0 S1 S2 Y0 Y1 Y2 B0 B1 B2 Z0 Z1 Z2 X0 X1 X2 hbx bcx ⊢
    go_wp2_with fail
    refine (K6.out _).mono ?_
    rintro e w15 ⟨rfl, hb15⟩
    have S0 := cell_on hb15 S0
    have S1 := cell_on hb15 S1
    have S2 := cell_on hb15 S2
    have Y0 := cell_on hb15 Y0
    have Y1 := cell_on hb15 Y1
    have Y2 := cell_on hb15 Y2
    have B0 := cell_on hb15 B0
    have B1 := cell_on hb15 B1
    have B2 := cell_on hb15 B2
    have Z0 := cell_on hb15 Z0
    have Z1 := cell_on hb15 Z1
    have Z2 := cell_on hb15 Z2
    have X0 := cell_on hb15 X0
    have X1 := cell_on hb15 X1
    have X2 := cell_on hb15 X2
    have bb15 := below_step bcx hb15
    have X0u := fun o => cell_on (below_alloc w15 o) X0
    have X1u := fun o => cell_on (below_alloc w15 o) X1
    have X2u := fun o => cell_on (below_alloc w15 o) X2
    go_wp2_with fail
    refine (rsame_yes (l := []) _ _ (Rd.nil _ _) (Rd.nil _ _)).mono ?_
    rintro e w16 ⟨rfl, hb16⟩
    have S0 := cell_up hb16 S0
    have S1 := cell_up hb16 S1
    have S2 := cell_up hb16 S2
    have Y0 := cell_up hb16 Y0
    have Y1 := cell_up hb16 Y1
    have Y2 := cell_up hb16 Y2
    have B0 := cell_up hb16 B0
    have B1 := cell_up hb16 B1
    have B2 := cell_up hb16 B2
    have Z0 := cell_up hb16 Z0
    have Z1 := cell_up hb16 Z1
    have Z2 := cell_up hb16 Z2
    have X0 := cell_up hb16 X0
    have X1 := cell_up hb16 X1
    have X2 := cell_up hb16 X2
    have Q0 := var_on hb16 0 _ rfl
    have Q1 := var_on hb16 1 _ rfl
    have Q2 := var_on hb16 2 _ rfl
    have bb16 := below_step (below_step bb15 (below_alloc _ _)) hb16
    go_wp2_with fail
    go_ret
    exact ⟨rfl, bb16⟩
theorem vres_is (r : Int × Int) : ∃ k n, vres r = .agg #[.int .i64 k, .int .i64 n, .slice none 0 0] := by
  unfold vres
  split
  · exact ⟨_, _, rfl⟩
  · exact ⟨_, _, rfl⟩
theorem times_law (a b c : Int) (w : World) (ha : -9223372036854775808 ≤ a ∧ a < 9223372036854775808) (hb : -9223372036854775808 ≤ b ∧ b < 9223372036854775808) (hc : -9223372036854775808 ≤ c ∧ c < 9223372036854775808) :
    Calls Try.prog 8 #[.int .i64 a, .int .i64 b, .int .i64 c] w fun e w' => e = .returned (.bool true) ∧ Below w.heap.size w w' := by
  have K1 := fun w => two_star (A := none) (B := none) (n := 0) (m := 0) (c := 0) (d := 0) a b w ha hb
  have K2 := fun w => two_star (A := none) (B := none) (n := 0) (m := 0) (c := 0) (d := 0) b a w hb ha
  have K3 := fun w => two_plus (A := none) (B := none) (n := 0) (m := 0) (c := 0) (d := 0) b c w hb hc
  have K4 := fun w => two_star (A := none) (B := none) (n := 0) (m := 0) (c := 0) (d := 0) a c w ha hc
  rw [Int.mul_comm b a] at K2
  by_cases h1 : -9223372036854775808 ≤ a * b ∧ a * b < 9223372036854775808
  · by_cases h2 : -9223372036854775808 ≤ b + c ∧ b + c < 9223372036854775808
    · by_cases h3 : -9223372036854775808 ≤ a * c ∧ a * c < 9223372036854775808
      · have K5 := fun w => two_star (A := none) (B := none) (n := 0) (m := 0) (c := 0) (d := 0) a (b + c) w ha h2
        have K6 := fun w => two_plus (A := none) (B := none) (n := 0) (m := 0) (c := 0) (d := 0) (a * b) (a * c) w h1 h3
        rw [Int.mul_add] at K5
        rw [inR_ok h1.1 h1.2] at K1 K2
        rw [inR_ok h2.1 h2.2] at K3
        rw [inR_ok h3.1 h3.2] at K4
        obtain ⟨k, n, hv⟩ := vres_is (inR (a * b + a * c))
        rw [hv] at K5 K6
        exact times_main a b c _ _ _ _ _ _ k n _ w (hid K1) (hid K2) (hid K3) (hid K4) (hid K5) (hid K6)
      · obtain ⟨k1, n1, v1⟩ := vres_is (inR (a * b))
        obtain ⟨k2, n2, v2⟩ := vres_is (inR (b + c))
        obtain ⟨k3, n3, v3⟩ := vres_is (inR (a * c))
        rw [v1] at K1 K2
        rw [v2] at K3
        rw [v3] at K4
        exact times_early a b c k1 n1 _ k2 n2 _ k3 n3 _ w (.inr (.inr ⟨by rw [inR_ok h1.1 h1.2]; rfl, by rw [inR_ok h2.1 h2.2]; rfl, by rw [inR_no h3]; rfl⟩)) (hid K1) (hid K2) (hid K3) (hid K4)
    · obtain ⟨k1, n1, v1⟩ := vres_is (inR (a * b))
      obtain ⟨k2, n2, v2⟩ := vres_is (inR (b + c))
      obtain ⟨k3, n3, v3⟩ := vres_is (inR (a * c))
      rw [v1] at K1 K2
      rw [v2] at K3
      rw [v3] at K4
      exact times_early a b c k1 n1 _ k2 n2 _ k3 n3 _ w (.inr (.inl ⟨by rw [inR_ok h1.1 h1.2]; rfl, by rw [inR_no h2]; rfl, trivial⟩)) (hid K1) (hid K2) (hid K3) (hid K4)
  · obtain ⟨k1, n1, v1⟩ := vres_is (inR (a * b))
    obtain ⟨k2, n2, v2⟩ := vres_is (inR (b + c))
    obtain ⟨k3, n3, v3⟩ := vres_is (inR (a * c))
    rw [v1] at K1 K2
    rw [v2] at K3
    rw [v3] at K4
    exact times_early a b c k1 n1 _ k2 n2 _ k3 n3 _ w (.inl ⟨by rw [inR_no h1]; rfl, trivial, trivial⟩) (hid K1) (hid K2) (hid K3) (hid K4)
end Go.Proofs.Yteioiebkielaeaa
