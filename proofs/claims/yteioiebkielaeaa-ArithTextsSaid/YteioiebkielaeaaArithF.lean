import Derived.Test.YteioiebkielaeaaArithD
namespace Go.Proofs.Yteioiebkielaeaa
open Go.RowKit Go.Cov Go.Lib
set_option maxRecDepth 100000 in
set_option maxHeartbeats 1000000 in
theorem two_quo {A B : Option Addr} {n m c d : Nat} (a b : Int) (w : World) (ha : -9223372036854775808 ≤ a ∧ a < 9223372036854775808) (hb : -9223372036854775808 ≤ b ∧ b < 9223372036854775808) :
    Calls Try.prog 10 #[.string ⟨#[47]⟩, .agg #[.int .i64 1, .int .i64 a, .slice A n c], .agg #[.int .i64 1, .int .i64 b, .slice B m d]] w fun e w' => e = .returned (.tuple #[vres (quoR Int.tdiv a b), .int .i64 (quoR Int.tdiv a b).2]) ∧ Below w.heap.size w w' := by
  have K := hid (fun W (hq : W.cell? ⟨w.heap.size + 1 + 1 + 1 + 1, 0, none⟩ = some (.func (.func 28) #[] #[])) => quo_any a b W hq ha hb)
  generalize quoR Int.tdiv a b = r at K
  obtain ⟨x, t⟩ := r
  dsimp only at K
  have q1 := n43f
  have q2 := n43n
  by_cases ht : t = 0
  · subst ht
    go_enter Try.func10, Try.ntmps10
    go_wp2_with fail
    refine (of_quo _).mono ?_
    rintro e w1 ⟨rfl, hb1, hsz, hcl⟩
    have hB := boxes3_below hb1
    obtain ⟨b1, b2, b3, b4, hz3⟩ := boxes3 hb1
    have c10 := b1 0 _ rfl
    have c11 := b1 1 _ rfl
    have c20 := b2 0 _ rfl
    have c21 := b2 1 _ rfl
    have c30 := b3 0 _ rfl
    have c31 := b3 1 _ rfl
    have c32 := b3 2 _ rfl
    have f30 := b4 0
    have f31 := b4 1
    have f32 := b4 2
    have hz2 : w.heap.size + 1 < w1.heap.size := by omega
    have hz1 : w.heap.size < w1.heap.size := by omega
    clear b1 b2 b3 b4
    simp at hcl
    have hcl2 : ∀ o, (w1.alloc o).cell? ⟨w.heap.size + 1 + 1 + 1 + 1, 0, none⟩ = _ := fun o => ((below_alloc w1 o).cell (cell_lt hcl)).trans hcl
    go_wp2_with fail
    refine (K.out _ (hcl2 _)).mono ?_
    rintro e w' ⟨rfl, rfl⟩
    go_wp2_with fail
    refine (num_any _ _).mono ?_
    rintro e w2 ⟨rfl, hb2⟩
    have hs2 := below_step (below_alloc w1 _) hb2
    have d30 := (hs2.cell (cell_lt c30)).trans c30
    have d31 := (hs2.cell (cell_lt c31)).trans c31
    have d32 := (hs2.cell (cell_lt c32)).trans c32
    have g30 := (hs2.frozen (p := ⟨w.heap.size + 1 + 1, 0, none⟩) hz3).trans f30
    have g31 := (hs2.frozen (p := ⟨w.heap.size + 1 + 1, 1, none⟩) hz3).trans f31
    have g32 := (hs2.frozen (p := ⟨w.heap.size + 1 + 1, 2, none⟩) hz3).trans f32
    go_wp2_with fail
    refine bodyPost_ret (v := .tuple #[.agg #[.int .i64 1, .int .i64 x, .slice none 0 0], .int .i64 0]) ?_ rfl ⟨rfl, ?_⟩
    · obtain ⟨s0, s1, s2⟩ := set3 (y0 := .int .i64 1) (y1 := .int .i64 x) (y2 := .slice none 0 0) d30 d31 d32
      simp [results, Try.results10, go_sem, s0, s1, s2]
    · exact below_set3 (below_step hB hs2) (by omega)
  · have ht1 : (t != 0) = true := by simpa using ht
    have hv : Hid (vres (x, t) = .agg #[.int .i64 0, .int .i64 0, .slice none 0 0]) := hid (by rw [vres, if_neg ht])
    rw [hv.out]
    go_enter Try.func10, Try.ntmps10
    go_wp2_with fail
    refine (of_quo _).mono ?_
    rintro e w1 ⟨rfl, hb1, hsz, hcl⟩
    have hB := boxes3_below hb1
    obtain ⟨b1, b2, b3, b4, hz3⟩ := boxes3 hb1
    have c10 := b1 0 _ rfl
    have c11 := b1 1 _ rfl
    have c20 := b2 0 _ rfl
    have c21 := b2 1 _ rfl
    have c30 := b3 0 _ rfl
    have c31 := b3 1 _ rfl
    have c32 := b3 2 _ rfl
    have f30 := b4 0
    have f31 := b4 1
    have f32 := b4 2
    have hz2 : w.heap.size + 1 < w1.heap.size := by omega
    have hz1 : w.heap.size < w1.heap.size := by omega
    clear b1 b2 b3 b4
    simp at hcl
    have hcl2 : ∀ o, (w1.alloc o).cell? ⟨w.heap.size + 1 + 1 + 1 + 1, 0, none⟩ = _ := fun o => ((below_alloc w1 o).cell (cell_lt hcl)).trans hcl
    go_wp2_with fail
    refine (K.out _ (hcl2 _)).mono ?_
    rintro e w' ⟨rfl, rfl⟩
    go_wp2_with fail
    refine bodyPost_ret (v := .tuple #[.agg #[.int .i64 0, .int .i64 0, .slice none 0 0], .int .i64 t]) ?_ rfl ⟨rfl, ?_⟩
    · obtain ⟨s0, s1, s2⟩ := set3 (y0 := .int .i64 0) (y1 := .int .i64 0) (y2 := .slice none 0 0) c30 c31 c32
      simp [results, Try.results10, go_sem, s0, s1, s2, hz3]
    · exact (below_set3 hB (by omega)).alloc (by simp; omega) _
set_option maxRecDepth 100000 in
set_option maxHeartbeats 1000000 in
theorem two_rem {A B : Option Addr} {n m c d : Nat} (a b : Int) (w : World) (ha : -9223372036854775808 ≤ a ∧ a < 9223372036854775808) (hb : -9223372036854775808 ≤ b ∧ b < 9223372036854775808) :
    Calls Try.prog 10 #[.string ⟨#[37]⟩, .agg #[.int .i64 1, .int .i64 a, .slice A n c], .agg #[.int .i64 1, .int .i64 b, .slice B m d]] w fun e w' => e = .returned (.tuple #[vres (quoR Int.tmod a b), .int .i64 (quoR Int.tmod a b).2]) ∧ Below w.heap.size w w' := by
  have K := hid (fun W (hq : W.cell? ⟨w.heap.size + 1 + 1 + 1 + 1, 0, none⟩ = some (.func (.func 29) #[] #[])) => rem_any a b W hq ha hb)
  generalize quoR Int.tmod a b = r at K
  obtain ⟨x, t⟩ := r
  dsimp only at K
  have q1 := n43f
  have q2 := n43n
  by_cases ht : t = 0
  · subst ht
    go_enter Try.func10, Try.ntmps10
    go_wp2_with fail
    refine (of_rem _).mono ?_
    rintro e w1 ⟨rfl, hb1, hsz, hcl⟩
    have hB := boxes3_below hb1
    obtain ⟨b1, b2, b3, b4, hz3⟩ := boxes3 hb1
    have c10 := b1 0 _ rfl
    have c11 := b1 1 _ rfl
    have c20 := b2 0 _ rfl
    have c21 := b2 1 _ rfl
    have c30 := b3 0 _ rfl
    have c31 := b3 1 _ rfl
    have c32 := b3 2 _ rfl
    have f30 := b4 0
    have f31 := b4 1
    have f32 := b4 2
    have hz2 : w.heap.size + 1 < w1.heap.size := by omega
    have hz1 : w.heap.size < w1.heap.size := by omega
    clear b1 b2 b3 b4
    simp at hcl
    have hcl2 : ∀ o, (w1.alloc o).cell? ⟨w.heap.size + 1 + 1 + 1 + 1, 0, none⟩ = _ := fun o => ((below_alloc w1 o).cell (cell_lt hcl)).trans hcl
    go_wp2_with fail
    refine (K.out _ (hcl2 _)).mono ?_
    rintro e w' ⟨rfl, rfl⟩
    go_wp2_with fail
    refine (num_any _ _).mono ?_
    rintro e w2 ⟨rfl, hb2⟩
    have hs2 := below_step (below_alloc w1 _) hb2
    have d30 := (hs2.cell (cell_lt c30)).trans c30
    have d31 := (hs2.cell (cell_lt c31)).trans c31
    have d32 := (hs2.cell (cell_lt c32)).trans c32
    have g30 := (hs2.frozen (p := ⟨w.heap.size + 1 + 1, 0, none⟩) hz3).trans f30
    have g31 := (hs2.frozen (p := ⟨w.heap.size + 1 + 1, 1, none⟩) hz3).trans f31
    have g32 := (hs2.frozen (p := ⟨w.heap.size + 1 + 1, 2, none⟩) hz3).trans f32
    go_wp2_with fail
    refine bodyPost_ret (v := .tuple #[.agg #[.int .i64 1, .int .i64 x, .slice none 0 0], .int .i64 0]) ?_ rfl ⟨rfl, ?_⟩
    · obtain ⟨s0, s1, s2⟩ := set3 (y0 := .int .i64 1) (y1 := .int .i64 x) (y2 := .slice none 0 0) d30 d31 d32
      simp [results, Try.results10, go_sem, s0, s1, s2]
    · exact below_set3 (below_step hB hs2) (by omega)
  · have ht1 : (t != 0) = true := by simpa using ht
    have hv : Hid (vres (x, t) = .agg #[.int .i64 0, .int .i64 0, .slice none 0 0]) := hid (by rw [vres, if_neg ht])
    rw [hv.out]
    go_enter Try.func10, Try.ntmps10
    go_wp2_with fail
    refine (of_rem _).mono ?_
    rintro e w1 ⟨rfl, hb1, hsz, hcl⟩
    have hB := boxes3_below hb1
    obtain ⟨b1, b2, b3, b4, hz3⟩ := boxes3 hb1
    have c10 := b1 0 _ rfl
    have c11 := b1 1 _ rfl
    have c20 := b2 0 _ rfl
    have c21 := b2 1 _ rfl
    have c30 := b3 0 _ rfl
    have c31 := b3 1 _ rfl
    have c32 := b3 2 _ rfl
    have f30 := b4 0
    have f31 := b4 1
    have f32 := b4 2
    have hz2 : w.heap.size + 1 < w1.heap.size := by omega
    have hz1 : w.heap.size < w1.heap.size := by omega
    clear b1 b2 b3 b4
    simp at hcl
    have hcl2 : ∀ o, (w1.alloc o).cell? ⟨w.heap.size + 1 + 1 + 1 + 1, 0, none⟩ = _ := fun o => ((below_alloc w1 o).cell (cell_lt hcl)).trans hcl
    go_wp2_with fail
    refine (K.out _ (hcl2 _)).mono ?_
    rintro e w' ⟨rfl, rfl⟩
    go_wp2_with fail
    refine bodyPost_ret (v := .tuple #[.agg #[.int .i64 0, .int .i64 0, .slice none 0 0], .int .i64 t]) ?_ rfl ⟨rfl, ?_⟩
    · obtain ⟨s0, s1, s2⟩ := set3 (y0 := .int .i64 0) (y1 := .int .i64 0) (y2 := .slice none 0 0) c30 c31 c32
      simp [results, Try.results10, go_sem, s0, s1, s2, hz3]
    · exact (below_set3 hB (by omega)).alloc (by simp; omega) _
end Go.Proofs.Yteioiebkielaeaa
