import Derived.Test.YteioiebkielaeaaArithD
namespace Go.Proofs.Yteioiebkielaeaa
open Go.RowKit Go.Cov Go.Lib
theorem eql_b (a b : Bool) (w : World) : Calls Try.prog 35 #[.bool a, .bool b] w fun e w' => e = .returned (.bool (a == b)) ∧ w = w' := by
  cases a <;> cases b
  all_goals
    go_enter Try.func35, Try.ntmps35
    go_wp2
    go_ret
    exact ⟨rfl, rfl⟩
set_option maxRecDepth 100000 in
set_option maxHeartbeats 1000000 in
theorem twob_eql {A B : Option Addr} {n m c d : Nat} (a b : Int) (w : World) :
    Calls Try.prog 10 #[.string ⟨#[61, 61]⟩, .agg #[.int .i64 2, .int .i64 a, .slice A n c], .agg #[.int .i64 2, .int .i64 b, .slice B m d]] w fun e w' => e = .returned (.tuple #[vbool ((a == 1) == (b == 1)), .int .i64 0]) ∧ Below w.heap.size w w' := by
  have K := hid (fun w => eql_b (a == 1) (b == 1) w)
  generalize hr : ((a == 1) == (b == 1)) = r at K
  clear hr
  have q1 := n43f
  have q2 := n43n
  have q3 := n32f
  have q4 := n32n
  have q5 := n44f
  have q6 := n44n
  unfold vbool
  have K2 := hid (fun w => bool_any r w)
  unfold vbool at K2
  generalize (if r = true then (1 : Int) else 0) = x at K2
  · go_enter Try.func10, Try.ntmps10
    go_wp2_with fail
    refine (of_eql _).mono ?_
    rintro e w1 ⟨rfl, hb1⟩
    have hB := boxes3_below hb1
    obtain ⟨b1, b2, b3, b4, hz3⟩ := boxes3 hb1
    have c10 := b1 0 _ rfl
    have c11 := b1 1 _ rfl
    have c20 := b2 0 _ rfl
    have c21 := b2 1 _ rfl
    have c30 := b3 0 _ rfl
    have c31 := b3 1 _ rfl
    have c32 := b3 2 _ rfl
    have f30 := b4 0
    have f31 := b4 1
    have f32 := b4 2
    have hz2 : w.heap.size + 1 < w1.heap.size := by omega
    have hz1 : w.heap.size < w1.heap.size := by omega
    clear b1 b2 b3 b4
    go_wp2_with fail
    refine (K.out _).mono ?_
    rintro e w' ⟨rfl, rfl⟩
    go_wp2_with fail
    refine (K2.out _).mono ?_
    rintro e w2 ⟨rfl, hb2⟩
    have hs2 := below_step (below_alloc w1 _) hb2
    have d30 := (hs2.cell (cell_lt c30)).trans c30
    have d31 := (hs2.cell (cell_lt c31)).trans c31
    have d32 := (hs2.cell (cell_lt c32)).trans c32
    have g30 := (hs2.frozen (p := ⟨w.heap.size + 1 + 1, 0, none⟩) hz3).trans f30
    have g31 := (hs2.frozen (p := ⟨w.heap.size + 1 + 1, 1, none⟩) hz3).trans f31
    have g32 := (hs2.frozen (p := ⟨w.heap.size + 1 + 1, 2, none⟩) hz3).trans f32
    go_wp2_with fail
    refine bodyPost_ret (v := .tuple #[.agg #[.int .i64 2, .int .i64 x, .slice none 0 0], .int .i64 0]) ?_ rfl ⟨rfl, ?_⟩
    · obtain ⟨s0, s1, s2⟩ := set3 (y0 := .int .i64 2) (y1 := .int .i64 x) (y2 := .slice none 0 0) d30 d31 d32
      simp [results, Try.results10, go_sem, s0, s1, s2]
    · exact below_set3 (below_step hB hs2) (by omega)
theorem neq_b (a b : Bool) (w : World) : Calls Try.prog 38 #[.bool a, .bool b] w fun e w' => e = .returned (.bool (a != b)) ∧ w = w' := by
  cases a <;> cases b
  all_goals
    go_enter Try.func38, Try.ntmps38
    go_wp2
    go_ret
    exact ⟨rfl, rfl⟩
set_option maxRecDepth 100000 in
set_option maxHeartbeats 1000000 in
theorem twob_neq {A B : Option Addr} {n m c d : Nat} (a b : Int) (w : World) :
    Calls Try.prog 10 #[.string ⟨#[33, 61]⟩, .agg #[.int .i64 2, .int .i64 a, .slice A n c], .agg #[.int .i64 2, .int .i64 b, .slice B m d]] w fun e w' => e = .returned (.tuple #[vbool ((a == 1) != (b == 1)), .int .i64 0]) ∧ Below w.heap.size w w' := by
  have K := hid (fun w => neq_b (a == 1) (b == 1) w)
  generalize hr : ((a == 1) != (b == 1)) = r at K
  clear hr
  have q1 := n43f
  have q2 := n43n
  have q3 := n32f
  have q4 := n32n
  have q5 := n44f
  have q6 := n44n
  unfold vbool
  have K2 := hid (fun w => bool_any r w)
  unfold vbool at K2
  generalize (if r = true then (1 : Int) else 0) = x at K2
  · go_enter Try.func10, Try.ntmps10
    go_wp2_with fail
    refine (of_neq _).mono ?_
    rintro e w1 ⟨rfl, hb1⟩
    have hB := boxes3_below hb1
    obtain ⟨b1, b2, b3, b4, hz3⟩ := boxes3 hb1
    have c10 := b1 0 _ rfl
    have c11 := b1 1 _ rfl
    have c20 := b2 0 _ rfl
    have c21 := b2 1 _ rfl
    have c30 := b3 0 _ rfl
    have c31 := b3 1 _ rfl
    have c32 := b3 2 _ rfl
    have f30 := b4 0
    have f31 := b4 1
    have f32 := b4 2
    have hz2 : w.heap.size + 1 < w1.heap.size := by omega
    have hz1 : w.heap.size < w1.heap.size := by omega
    clear b1 b2 b3 b4
    go_wp2_with fail
    refine (K.out _).mono ?_
    rintro e w' ⟨rfl, rfl⟩
    go_wp2_with fail
    refine (K2.out _).mono ?_
    rintro e w2 ⟨rfl, hb2⟩
    have hs2 := below_step (below_alloc w1 _) hb2
    have d30 := (hs2.cell (cell_lt c30)).trans c30
    have d31 := (hs2.cell (cell_lt c31)).trans c31
    have d32 := (hs2.cell (cell_lt c32)).trans c32
    have g30 := (hs2.frozen (p := ⟨w.heap.size + 1 + 1, 0, none⟩) hz3).trans f30
    have g31 := (hs2.frozen (p := ⟨w.heap.size + 1 + 1, 1, none⟩) hz3).trans f31
    have g32 := (hs2.frozen (p := ⟨w.heap.size + 1 + 1, 2, none⟩) hz3).trans f32
    go_wp2_with fail
    refine bodyPost_ret (v := .tuple #[.agg #[.int .i64 2, .int .i64 x, .slice none 0 0], .int .i64 0]) ?_ rfl ⟨rfl, ?_⟩
    · obtain ⟨s0, s1, s2⟩ := set3 (y0 := .int .i64 2) (y1 := .int .i64 x) (y2 := .slice none 0 0) d30 d31 d32
      simp [results, Try.results10, go_sem, s0, s1, s2]
    · exact below_set3 (below_step hB hs2) (by omega)
theorem and_b (a b : Bool) (w : World) : Calls Try.prog 40 #[.bool a, .bool b] w fun e w' => e = .returned (.bool (a && b)) ∧ w = w' := by
  cases a <;> cases b
  all_goals
    go_enter Try.func40, Try.ntmps40
    go_wp2
    go_ret
    exact ⟨rfl, rfl⟩
set_option maxRecDepth 100000 in
set_option maxHeartbeats 1000000 in
theorem twob_and {A B : Option Addr} {n m c d : Nat} (a b : Int) (w : World) :
    Calls Try.prog 10 #[.string ⟨#[38, 38]⟩, .agg #[.int .i64 2, .int .i64 a, .slice A n c], .agg #[.int .i64 2, .int .i64 b, .slice B m d]] w fun e w' => e = .returned (.tuple #[vbool ((a == 1) && (b == 1)), .int .i64 0]) ∧ Below w.heap.size w w' := by
  have K := hid (fun w => and_b (a == 1) (b == 1) w)
  generalize hr : ((a == 1) && (b == 1)) = r at K
  clear hr
  have q1 := n43f
  have q2 := n43n
  have q3 := n32f
  have q4 := n32n
  have q5 := n44f
  have q6 := n44n
  unfold vbool
  have K2 := hid (fun w => bool_any r w)
  unfold vbool at K2
  generalize (if r = true then (1 : Int) else 0) = x at K2
  · go_enter Try.func10, Try.ntmps10
    go_wp2_with fail
    refine (of_and _).mono ?_
    rintro e w1 ⟨rfl, hb1⟩
    have hB := boxes3_below hb1
    obtain ⟨b1, b2, b3, b4, hz3⟩ := boxes3 hb1
    have c10 := b1 0 _ rfl
    have c11 := b1 1 _ rfl
    have c20 := b2 0 _ rfl
    have c21 := b2 1 _ rfl
    have c30 := b3 0 _ rfl
    have c31 := b3 1 _ rfl
    have c32 := b3 2 _ rfl
    have f30 := b4 0
    have f31 := b4 1
    have f32 := b4 2
    have hz2 : w.heap.size + 1 < w1.heap.size := by omega
    have hz1 : w.heap.size < w1.heap.size := by omega
    clear b1 b2 b3 b4
    go_wp2_with fail
    refine (K.out _).mono ?_
    rintro e w' ⟨rfl, rfl⟩
    go_wp2_with fail
    refine (K2.out _).mono ?_
    rintro e w2 ⟨rfl, hb2⟩
    have hs2 := below_step (below_alloc w1 _) hb2
    have d30 := (hs2.cell (cell_lt c30)).trans c30
    have d31 := (hs2.cell (cell_lt c31)).trans c31
    have d32 := (hs2.cell (cell_lt c32)).trans c32
    have g30 := (hs2.frozen (p := ⟨w.heap.size + 1 + 1, 0, none⟩) hz3).trans f30
    have g31 := (hs2.frozen (p := ⟨w.heap.size + 1 + 1, 1, none⟩) hz3).trans f31
    have g32 := (hs2.frozen (p := ⟨w.heap.size + 1 + 1, 2, none⟩) hz3).trans f32
    go_wp2_with fail
    refine bodyPost_ret (v := .tuple #[.agg #[.int .i64 2, .int .i64 x, .slice none 0 0], .int .i64 0]) ?_ rfl ⟨rfl, ?_⟩
    · obtain ⟨s0, s1, s2⟩ := set3 (y0 := .int .i64 2) (y1 := .int .i64 x) (y2 := .slice none 0 0) d30 d31 d32
      simp [results, Try.results10, go_sem, s0, s1, s2]
    · exact below_set3 (below_step hB hs2) (by omega)
theorem or_b (a b : Bool) (w : World) : Calls Try.prog 41 #[.bool a, .bool b] w fun e w' => e = .returned (.bool (a || b)) ∧ w = w' := by
  cases a <;> cases b
  all_goals
    go_enter Try.func41, Try.ntmps41
    go_wp2
    go_ret
    exact ⟨rfl, rfl⟩
set_option maxRecDepth 100000 in
set_option maxHeartbeats 1000000 in
theorem twob_or {A B : Option Addr} {n m c d : Nat} (a b : Int) (w : World) :
    Calls Try.prog 10 #[.string ⟨#[124, 124]⟩, .agg #[.int .i64 2, .int .i64 a, .slice A n c], .agg #[.int .i64 2, .int .i64 b, .slice B m d]] w fun e w' => e = .returned (.tuple #[vbool ((a == 1) || (b == 1)), .int .i64 0]) ∧ Below w.heap.size w w' := by
  have K := hid (fun w => or_b (a == 1) (b == 1) w)
  generalize hr : ((a == 1) || (b == 1)) = r at K
  clear hr
  have q1 := n43f
  have q2 := n43n
  have q3 := n32f
  have q4 := n32n
  have q5 := n44f
  have q6 := n44n
  unfold vbool
  have K2 := hid (fun w => bool_any r w)
  unfold vbool at K2
  generalize (if r = true then (1 : Int) else 0) = x at K2
  · go_enter Try.func10, Try.ntmps10
    go_wp2_with fail
    refine (of_or _).mono ?_
    rintro e w1 ⟨rfl, hb1⟩
    have hB := boxes3_below hb1
    obtain ⟨b1, b2, b3, b4, hz3⟩ := boxes3 hb1
    have c10 := b1 0 _ rfl
    have c11 := b1 1 _ rfl
    have c20 := b2 0 _ rfl
    have c21 := b2 1 _ rfl
    have c30 := b3 0 _ rfl
    have c31 := b3 1 _ rfl
    have c32 := b3 2 _ rfl
    have f30 := b4 0
    have f31 := b4 1
    have f32 := b4 2
    have hz2 : w.heap.size + 1 < w1.heap.size := by omega
    have hz1 : w.heap.size < w1.heap.size := by omega
    clear b1 b2 b3 b4
    go_wp2_with fail
    refine (K.out _).mono ?_
    rintro e w' ⟨rfl, rfl⟩
    go_wp2_with fail
    refine (K2.out _).mono ?_
    rintro e w2 ⟨rfl, hb2⟩
    have hs2 := below_step (below_alloc w1 _) hb2
    have d30 := (hs2.cell (cell_lt c30)).trans c30
    have d31 := (hs2.cell (cell_lt c31)).trans c31
    have d32 := (hs2.cell (cell_lt c32)).trans c32
    have g30 := (hs2.frozen (p := ⟨w.heap.size + 1 + 1, 0, none⟩) hz3).trans f30
    have g31 := (hs2.frozen (p := ⟨w.heap.size + 1 + 1, 1, none⟩) hz3).trans f31
    have g32 := (hs2.frozen (p := ⟨w.heap.size + 1 + 1, 2, none⟩) hz3).trans f32
    go_wp2_with fail
    refine bodyPost_ret (v := .tuple #[.agg #[.int .i64 2, .int .i64 x, .slice none 0 0], .int .i64 0]) ?_ rfl ⟨rfl, ?_⟩
    · obtain ⟨s0, s1, s2⟩ := set3 (y0 := .int .i64 2) (y1 := .int .i64 x) (y2 := .slice none 0 0) d30 d31 d32
      simp [results, Try.results10, go_sem, s0, s1, s2]
    · exact below_set3 (below_step hB hs2) (by omega)
end Go.Proofs.Yteioiebkielaeaa
