import Derived.Test.YteioiebkielaeaaArithK
namespace Go.Proofs.Yteioiebkielaeaa
open Go.RowKit Go.Cov Go.Lib
set_option maxRecDepth 100000 in
set_option maxHeartbeats 1000000 in
theorem b1_any {s : ByteArray} {k n k1 n1 e1 : Int} (K : ∀ w, Calls Try.prog 15 #[.string s, .agg #[.int .i64 k, .int .i64 n, .slice none 0 0]] w fun e w' => e = .returned (.tuple #[.agg #[.int .i64 k1, .int .i64 n1, .slice none 0 0], .int .i64 e1]) ∧ Below w.heap.size w w') (w : World) :
    Calls Try.prog 14 #[.string s, .agg #[.int .i64 k, .int .i64 n, .slice none 0 0]] w fun e w' => e = .returned (.agg #[.int .i64 k1, .int .i64 n1, .slice none 0 0]) ∧ Below w.heap.size w w' := by
  have K2 := hid K
  clear K
  go_enter Try.func14, Try.ntmps14
  go_wp2_with fail
  refine (K2.out _).mono ?_
  rintro e w2 ⟨rfl, hb2⟩
  obtain ⟨b1, b2, b3, hz⟩ := boxes2 hb2
  have d30 := b2 0 _ rfl
  have d31 := b2 1 _ rfl
  have d32 := b2 2 _ rfl
  have g30 := b3 0
  have g31 := b3 1
  have g32 := b3 2
  clear b1 b2 b3
  go_wp2_with fail
  refine bodyPost_ret (v := .agg #[.int .i64 k1, .int .i64 n1, .slice none 0 0]) ?_ rfl ⟨rfl, ?_⟩
  · obtain ⟨s0, s1, s2⟩ := set3_cells d30 d31 d32 (.int .i64 k1) (.int .i64 n1) (.slice none 0 0)
    have t0 := fun o => cell_on (below_alloc _ o) s0
    have t1 := fun o => cell_on (below_alloc _ o) s1
    have t2 := fun o => cell_on (below_alloc _ o) s2
    simp [results, Try.results14, go_sem, t0, t1, t2]
  · exact below_step (below_set3 (boxes2_below hb2) (by omega)) (below_alloc _ _)
set_option maxRecDepth 100000 in
set_option maxHeartbeats 1000000 in
theorem b2_any {s : ByteArray} {k n l m k1 n1 e1 : Int} (K : ∀ w, Calls Try.prog 10 #[.string s, .agg #[.int .i64 k, .int .i64 n, .slice none 0 0], .agg #[.int .i64 l, .int .i64 m, .slice none 0 0]] w fun e w' => e = .returned (.tuple #[.agg #[.int .i64 k1, .int .i64 n1, .slice none 0 0], .int .i64 e1]) ∧ Below w.heap.size w w') (w : World) :
    Calls Try.prog 16 #[.string s, .agg #[.int .i64 k, .int .i64 n, .slice none 0 0], .agg #[.int .i64 l, .int .i64 m, .slice none 0 0]] w fun e w' => e = .returned (.agg #[.int .i64 k1, .int .i64 n1, .slice none 0 0]) ∧ Below w.heap.size w w' := by
  have K2 := hid K
  clear K
  go_enter Try.func16, Try.ntmps16
  go_wp2_with fail
  refine (K2.out _).mono ?_
  rintro e w2 ⟨rfl, hb2⟩
  obtain ⟨b1, b2, b3, b4, hz⟩ := boxes3 hb2
  have d30 := b3 0 _ rfl
  have d31 := b3 1 _ rfl
  have d32 := b3 2 _ rfl
  have g30 := b4 0
  have g31 := b4 1
  have g32 := b4 2
  clear b1 b2 b3 b4
  go_wp2_with fail
  refine bodyPost_ret (v := .agg #[.int .i64 k1, .int .i64 n1, .slice none 0 0]) ?_ rfl ⟨rfl, ?_⟩
  · obtain ⟨s0, s1, s2⟩ := set3_cells d30 d31 d32 (.int .i64 k1) (.int .i64 n1) (.slice none 0 0)
    have t0 := fun o => cell_on (below_alloc _ o) s0
    have t1 := fun o => cell_on (below_alloc _ o) s1
    have t2 := fun o => cell_on (below_alloc _ o) s2
    simp [results, Try.results16, go_sem, t0, t1, t2]
  · exact below_step (below_set3 (boxes3_below hb2) (by omega)) (below_alloc _ _)
end Go.Proofs.Yteioiebkielaeaa
