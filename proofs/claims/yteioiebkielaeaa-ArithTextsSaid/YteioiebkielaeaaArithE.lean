import Derived.Test.YteioiebkielaeaaArithD
namespace Go.Proofs.Yteioiebkielaeaa
open Go.RowKit Go.Cov Go.Lib
set_option maxRecDepth 100000 in
set_option maxHeartbeats 1000000 in
theorem two_minus {A B : Option Addr} {n m c d : Nat} (a b : Int) (w : World) (ha : -9223372036854775808 ≤ a ∧ a < 9223372036854775808) (hb : -9223372036854775808 ≤ b ∧ b < 9223372036854775808) :
    Calls Try.prog 10 #[.string ⟨#[45]⟩, .agg #[.int .i64 1, .int .i64 a, .slice A n c], .agg #[.int .i64 1, .int .i64 b, .slice B m d]] w fun e w' => e = .returned (.tuple #[vres (inR (a - b)), .int .i64 (inR (a - b)).2]) ∧ Below w.heap.size w w' := by
  have K := hid (fun w => minus_any a b w ha hb)
  generalize inR (a - b) = r at K
  obtain ⟨x, t⟩ := r
  dsimp only at K
  have q1 := n43f
  have q2 := n43n
  by_cases ht : t = 0
  · subst ht
    go_enter Try.func10, Try.ntmps10
    go_wp2_with fail
    refine (of_minus _).mono ?_
    rintro e w1 ⟨rfl, hb1⟩
    have hB := boxes3_below hb1
    obtain ⟨b1, b2, b3, b4, hz3⟩ := boxes3 hb1
    have c10 := b1 0 _ rfl
    have c11 := b1 1 _ rfl
    have c20 := b2 0 _ rfl
    have c21 := b2 1 _ rfl
    have c30 := b3 0 _ rfl
    have c31 := b3 1 _ rfl
    have c32 := b3 2 _ rfl
    have f30 := b4 0
    have f31 := b4 1
    have f32 := b4 2
    have hz2 : w.heap.size + 1 < w1.heap.size := by omega
    have hz1 : w.heap.size < w1.heap.size := by omega
    clear b1 b2 b3 b4
    go_wp2_with fail
    refine (K.out _).mono ?_
    rintro e w' ⟨rfl, rfl⟩
    go_wp2_with fail
    refine (num_any _ _).mono ?_
    rintro e w2 ⟨rfl, hb2⟩
    have hs2 := below_step (below_alloc w1 _) hb2
    have d30 := (hs2.cell (cell_lt c30)).trans c30
    have d31 := (hs2.cell (cell_lt c31)).trans c31
    have d32 := (hs2.cell (cell_lt c32)).trans c32
    have g30 := (hs2.frozen (p := ⟨w.heap.size + 1 + 1, 0, none⟩) hz3).trans f30
    have g31 := (hs2.frozen (p := ⟨w.heap.size + 1 + 1, 1, none⟩) hz3).trans f31
    have g32 := (hs2.frozen (p := ⟨w.heap.size + 1 + 1, 2, none⟩) hz3).trans f32
    go_wp2_with fail
    refine bodyPost_ret (v := .tuple #[.agg #[.int .i64 1, .int .i64 x, .slice none 0 0], .int .i64 0]) ?_ rfl ⟨rfl, ?_⟩
    · obtain ⟨s0, s1, s2⟩ := set3 (y0 := .int .i64 1) (y1 := .int .i64 x) (y2 := .slice none 0 0) d30 d31 d32
      simp [results, Try.results10, go_sem, s0, s1, s2]
    · exact below_set3 (below_step hB hs2) (by omega)
  · have ht1 : (t != 0) = true := by simpa using ht
    have hv : Hid (vres (x, t) = .agg #[.int .i64 0, .int .i64 0, .slice none 0 0]) := hid (by rw [vres, if_neg ht])
    rw [hv.out]
    go_enter Try.func10, Try.ntmps10
    go_wp2_with fail
    refine (of_minus _).mono ?_
    rintro e w1 ⟨rfl, hb1⟩
    have hB := boxes3_below hb1
    obtain ⟨b1, b2, b3, b4, hz3⟩ := boxes3 hb1
    have c10 := b1 0 _ rfl
    have c11 := b1 1 _ rfl
    have c20 := b2 0 _ rfl
    have c21 := b2 1 _ rfl
    have c30 := b3 0 _ rfl
    have c31 := b3 1 _ rfl
    have c32 := b3 2 _ rfl
    have f30 := b4 0
    have f31 := b4 1
    have f32 := b4 2
    have hz2 : w.heap.size + 1 < w1.heap.size := by omega
    have hz1 : w.heap.size < w1.heap.size := by omega
    clear b1 b2 b3 b4
    go_wp2_with fail
    refine (K.out _).mono ?_
    rintro e w' ⟨rfl, rfl⟩
    go_wp2_with fail
    refine bodyPost_ret (v := .tuple #[.agg #[.int .i64 0, .int .i64 0, .slice none 0 0], .int .i64 t]) ?_ rfl ⟨rfl, ?_⟩
    · obtain ⟨s0, s1, s2⟩ := set3 (y0 := .int .i64 0) (y1 := .int .i64 0) (y2 := .slice none 0 0) c30 c31 c32
      simp [results, Try.results10, go_sem, s0, s1, s2, hz3]
    · exact (below_set3 hB (by omega)).alloc (by simp; omega) _
set_option maxRecDepth 100000 in
set_option maxHeartbeats 1000000 in
theorem two_star {A B : Option Addr} {n m c d : Nat} (a b : Int) (w : World) (ha : -9223372036854775808 ≤ a ∧ a < 9223372036854775808) (hb : -9223372036854775808 ≤ b ∧ b < 9223372036854775808) :
    Calls Try.prog 10 #[.string ⟨#[42]⟩, .agg #[.int .i64 1, .int .i64 a, .slice A n c], .agg #[.int .i64 1, .int .i64 b, .slice B m d]] w fun e w' => e = .returned (.tuple #[vres (inR (a * b)), .int .i64 (inR (a * b)).2]) ∧ Below w.heap.size w w' := by
  have K := hid (fun w => times_any a b w ha hb)
  generalize inR (a * b) = r at K
  obtain ⟨x, t⟩ := r
  dsimp only at K
  have q1 := n43f
  have q2 := n43n
  by_cases ht : t = 0
  · subst ht
    go_enter Try.func10, Try.ntmps10
    go_wp2_with fail
    refine (of_star _).mono ?_
    rintro e w1 ⟨rfl, hb1⟩
    have hB := boxes3_below hb1
    obtain ⟨b1, b2, b3, b4, hz3⟩ := boxes3 hb1
    have c10 := b1 0 _ rfl
    have c11 := b1 1 _ rfl
    have c20 := b2 0 _ rfl
    have c21 := b2 1 _ rfl
    have c30 := b3 0 _ rfl
    have c31 := b3 1 _ rfl
    have c32 := b3 2 _ rfl
    have f30 := b4 0
    have f31 := b4 1
    have f32 := b4 2
    have hz2 : w.heap.size + 1 < w1.heap.size := by omega
    have hz1 : w.heap.size < w1.heap.size := by omega
    clear b1 b2 b3 b4
    go_wp2_with fail
    refine (K.out _).mono ?_
    rintro e w' ⟨rfl, rfl⟩
    go_wp2_with fail
    refine (num_any _ _).mono ?_
    rintro e w2 ⟨rfl, hb2⟩
    have hs2 := below_step (below_alloc w1 _) hb2
    have d30 := (hs2.cell (cell_lt c30)).trans c30
    have d31 := (hs2.cell (cell_lt c31)).trans c31
    have d32 := (hs2.cell (cell_lt c32)).trans c32
    have g30 := (hs2.frozen (p := ⟨w.heap.size + 1 + 1, 0, none⟩) hz3).trans f30
    have g31 := (hs2.frozen (p := ⟨w.heap.size + 1 + 1, 1, none⟩) hz3).trans f31
    have g32 := (hs2.frozen (p := ⟨w.heap.size + 1 + 1, 2, none⟩) hz3).trans f32
    go_wp2_with fail
    refine bodyPost_ret (v := .tuple #[.agg #[.int .i64 1, .int .i64 x, .slice none 0 0], .int .i64 0]) ?_ rfl ⟨rfl, ?_⟩
    · obtain ⟨s0, s1, s2⟩ := set3 (y0 := .int .i64 1) (y1 := .int .i64 x) (y2 := .slice none 0 0) d30 d31 d32
      simp [results, Try.results10, go_sem, s0, s1, s2]
    · exact below_set3 (below_step hB hs2) (by omega)
  · have ht1 : (t != 0) = true := by simpa using ht
    have hv : Hid (vres (x, t) = .agg #[.int .i64 0, .int .i64 0, .slice none 0 0]) := hid (by rw [vres, if_neg ht])
    rw [hv.out]
    go_enter Try.func10, Try.ntmps10
    go_wp2_with fail
    refine (of_star _).mono ?_
    rintro e w1 ⟨rfl, hb1⟩
    have hB := boxes3_below hb1
    obtain ⟨b1, b2, b3, b4, hz3⟩ := boxes3 hb1
    have c10 := b1 0 _ rfl
    have c11 := b1 1 _ rfl
    have c20 := b2 0 _ rfl
    have c21 := b2 1 _ rfl
    have c30 := b3 0 _ rfl
    have c31 := b3 1 _ rfl
    have c32 := b3 2 _ rfl
    have f30 := b4 0
    have f31 := b4 1
    have f32 := b4 2
    have hz2 : w.heap.size + 1 < w1.heap.size := by omega
    have hz1 : w.heap.size < w1.heap.size := by omega
    clear b1 b2 b3 b4
    go_wp2_with fail
    refine (K.out _).mono ?_
    rintro e w' ⟨rfl, rfl⟩
    go_wp2_with fail
    refine bodyPost_ret (v := .tuple #[.agg #[.int .i64 0, .int .i64 0, .slice none 0 0], .int .i64 t]) ?_ rfl ⟨rfl, ?_⟩
    · obtain ⟨s0, s1, s2⟩ := set3 (y0 := .int .i64 0) (y1 := .int .i64 0) (y2 := .slice none 0 0) c30 c31 c32
      simp [results, Try.results10, go_sem, s0, s1, s2, hz3]
    · exact (below_set3 hB (by omega)).alloc (by simp; omega) _
end Go.Proofs.Yteioiebkielaeaa
