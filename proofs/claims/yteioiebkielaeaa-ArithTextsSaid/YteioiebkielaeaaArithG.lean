import Derived.Test.YteioiebkielaeaaArithD
namespace Go.Proofs.Yteioiebkielaeaa
open Go.RowKit Go.Cov Go.Lib
theorem lss_h (a b : Int) (w : World) : Calls Try.prog 30 #[.int .i64 a, .int .i64 b] w fun e w' => e = .returned (.bool (decide (a < b))) ∧ w = w' := by
  go_enter Try.func30, Try.ntmps30
  go_wp2
  go_ret
  exact ⟨rfl, rfl⟩
set_option maxRecDepth 100000 in
set_option maxHeartbeats 1000000 in
theorem two_lss {A B : Option Addr} {n m c d : Nat} (a b : Int) (w : World) :
    Calls Try.prog 10 #[.string ⟨#[60]⟩, .agg #[.int .i64 1, .int .i64 a, .slice A n c], .agg #[.int .i64 1, .int .i64 b, .slice B m d]] w fun e w' => e = .returned (.tuple #[vbool (decide (a < b)), .int .i64 0]) ∧ Below w.heap.size w w' := by
  have K := hid (fun w => lss_h a b w)
  generalize hr : (decide (a < b)) = r at K
  clear hr
  have q1 := n43f
  have q2 := n43n
  have q3 := n32f
  have q4 := n32n
  unfold vbool
  have K2 := hid (fun w => bool_any r w)
  unfold vbool at K2
  generalize (if r = true then (1 : Int) else 0) = x at K2
  · go_enter Try.func10, Try.ntmps10
    go_wp2_with fail
    refine (of_lss _).mono ?_
    rintro e w1 ⟨rfl, hb1⟩
    have hB := boxes3_below hb1
    obtain ⟨b1, b2, b3, b4, hz3⟩ := boxes3 hb1
    have c10 := b1 0 _ rfl
    have c11 := b1 1 _ rfl
    have c20 := b2 0 _ rfl
    have c21 := b2 1 _ rfl
    have c30 := b3 0 _ rfl
    have c31 := b3 1 _ rfl
    have c32 := b3 2 _ rfl
    have f30 := b4 0
    have f31 := b4 1
    have f32 := b4 2
    have hz2 : w.heap.size + 1 < w1.heap.size := by omega
    have hz1 : w.heap.size < w1.heap.size := by omega
    clear b1 b2 b3 b4
    go_wp2_with fail
    refine (K.out _).mono ?_
    rintro e w' ⟨rfl, rfl⟩
    go_wp2_with fail
    refine (K2.out _).mono ?_
    rintro e w2 ⟨rfl, hb2⟩
    have hs2 := below_step (below_alloc w1 _) hb2
    have d30 := (hs2.cell (cell_lt c30)).trans c30
    have d31 := (hs2.cell (cell_lt c31)).trans c31
    have d32 := (hs2.cell (cell_lt c32)).trans c32
    have g30 := (hs2.frozen (p := ⟨w.heap.size + 1 + 1, 0, none⟩) hz3).trans f30
    have g31 := (hs2.frozen (p := ⟨w.heap.size + 1 + 1, 1, none⟩) hz3).trans f31
    have g32 := (hs2.frozen (p := ⟨w.heap.size + 1 + 1, 2, none⟩) hz3).trans f32
    go_wp2_with fail
    refine bodyPost_ret (v := .tuple #[.agg #[.int .i64 2, .int .i64 x, .slice none 0 0], .int .i64 0]) ?_ rfl ⟨rfl, ?_⟩
    · obtain ⟨s0, s1, s2⟩ := set3 (y0 := .int .i64 2) (y1 := .int .i64 x) (y2 := .slice none 0 0) d30 d31 d32
      simp [results, Try.results10, go_sem, s0, s1, s2]
    · exact below_set3 (below_step hB hs2) (by omega)
theorem leq_h (a b : Int) (w : World) : Calls Try.prog 31 #[.int .i64 a, .int .i64 b] w fun e w' => e = .returned (.bool (decide (a ≤ b))) ∧ w = w' := by
  go_enter Try.func31, Try.ntmps31
  go_wp2
  go_ret
  exact ⟨rfl, rfl⟩
set_option maxRecDepth 100000 in
set_option maxHeartbeats 1000000 in
theorem two_leq {A B : Option Addr} {n m c d : Nat} (a b : Int) (w : World) :
    Calls Try.prog 10 #[.string ⟨#[60, 61]⟩, .agg #[.int .i64 1, .int .i64 a, .slice A n c], .agg #[.int .i64 1, .int .i64 b, .slice B m d]] w fun e w' => e = .returned (.tuple #[vbool (decide (a ≤ b)), .int .i64 0]) ∧ Below w.heap.size w w' := by
  have K := hid (fun w => leq_h a b w)
  generalize hr : (decide (a ≤ b)) = r at K
  clear hr
  have q1 := n43f
  have q2 := n43n
  have q3 := n32f
  have q4 := n32n
  unfold vbool
  have K2 := hid (fun w => bool_any r w)
  unfold vbool at K2
  generalize (if r = true then (1 : Int) else 0) = x at K2
  · go_enter Try.func10, Try.ntmps10
    go_wp2_with fail
    refine (of_leq _).mono ?_
    rintro e w1 ⟨rfl, hb1⟩
    have hB := boxes3_below hb1
    obtain ⟨b1, b2, b3, b4, hz3⟩ := boxes3 hb1
    have c10 := b1 0 _ rfl
    have c11 := b1 1 _ rfl
    have c20 := b2 0 _ rfl
    have c21 := b2 1 _ rfl
    have c30 := b3 0 _ rfl
    have c31 := b3 1 _ rfl
    have c32 := b3 2 _ rfl
    have f30 := b4 0
    have f31 := b4 1
    have f32 := b4 2
    have hz2 : w.heap.size + 1 < w1.heap.size := by omega
    have hz1 : w.heap.size < w1.heap.size := by omega
    clear b1 b2 b3 b4
    go_wp2_with fail
    refine (K.out _).mono ?_
    rintro e w' ⟨rfl, rfl⟩
    go_wp2_with fail
    refine (K2.out _).mono ?_
    rintro e w2 ⟨rfl, hb2⟩
    have hs2 := below_step (below_alloc w1 _) hb2
    have d30 := (hs2.cell (cell_lt c30)).trans c30
    have d31 := (hs2.cell (cell_lt c31)).trans c31
    have d32 := (hs2.cell (cell_lt c32)).trans c32
    have g30 := (hs2.frozen (p := ⟨w.heap.size + 1 + 1, 0, none⟩) hz3).trans f30
    have g31 := (hs2.frozen (p := ⟨w.heap.size + 1 + 1, 1, none⟩) hz3).trans f31
    have g32 := (hs2.frozen (p := ⟨w.heap.size + 1 + 1, 2, none⟩) hz3).trans f32
    go_wp2_with fail
    refine bodyPost_ret (v := .tuple #[.agg #[.int .i64 2, .int .i64 x, .slice none 0 0], .int .i64 0]) ?_ rfl ⟨rfl, ?_⟩
    · obtain ⟨s0, s1, s2⟩ := set3 (y0 := .int .i64 2) (y1 := .int .i64 x) (y2 := .slice none 0 0) d30 d31 d32
      simp [results, Try.results10, go_sem, s0, s1, s2]
    · exact below_set3 (below_step hB hs2) (by omega)
theorem gtr_h (a b : Int) (w : World) : Calls Try.prog 32 #[.int .i64 a, .int .i64 b] w fun e w' => e = .returned (.bool (decide (b < a))) ∧ w = w' := by
  go_enter Try.func32, Try.ntmps32
  go_wp2
  go_ret
  exact ⟨rfl, rfl⟩
set_option maxRecDepth 100000 in
set_option maxHeartbeats 1000000 in
theorem two_gtr {A B : Option Addr} {n m c d : Nat} (a b : Int) (w : World) :
    Calls Try.prog 10 #[.string ⟨#[62]⟩, .agg #[.int .i64 1, .int .i64 a, .slice A n c], .agg #[.int .i64 1, .int .i64 b, .slice B m d]] w fun e w' => e = .returned (.tuple #[vbool (decide (b < a)), .int .i64 0]) ∧ Below w.heap.size w w' := by
  have K := hid (fun w => gtr_h a b w)
  generalize hr : (decide (b < a)) = r at K
  clear hr
  have q1 := n43f
  have q2 := n43n
  have q3 := n32f
  have q4 := n32n
  unfold vbool
  have K2 := hid (fun w => bool_any r w)
  unfold vbool at K2
  generalize (if r = true then (1 : Int) else 0) = x at K2
  · go_enter Try.func10, Try.ntmps10
    go_wp2_with fail
    refine (of_gtr _).mono ?_
    rintro e w1 ⟨rfl, hb1⟩
    have hB := boxes3_below hb1
    obtain ⟨b1, b2, b3, b4, hz3⟩ := boxes3 hb1
    have c10 := b1 0 _ rfl
    have c11 := b1 1 _ rfl
    have c20 := b2 0 _ rfl
    have c21 := b2 1 _ rfl
    have c30 := b3 0 _ rfl
    have c31 := b3 1 _ rfl
    have c32 := b3 2 _ rfl
    have f30 := b4 0
    have f31 := b4 1
    have f32 := b4 2
    have hz2 : w.heap.size + 1 < w1.heap.size := by omega
    have hz1 : w.heap.size < w1.heap.size := by omega
    clear b1 b2 b3 b4
    go_wp2_with fail
    refine (K.out _).mono ?_
    rintro e w' ⟨rfl, rfl⟩
    go_wp2_with fail
    refine (K2.out _).mono ?_
    rintro e w2 ⟨rfl, hb2⟩
    have hs2 := below_step (below_alloc w1 _) hb2
    have d30 := (hs2.cell (cell_lt c30)).trans c30
    have d31 := (hs2.cell (cell_lt c31)).trans c31
    have d32 := (hs2.cell (cell_lt c32)).trans c32
    have g30 := (hs2.frozen (p := ⟨w.heap.size + 1 + 1, 0, none⟩) hz3).trans f30
    have g31 := (hs2.frozen (p := ⟨w.heap.size + 1 + 1, 1, none⟩) hz3).trans f31
    have g32 := (hs2.frozen (p := ⟨w.heap.size + 1 + 1, 2, none⟩) hz3).trans f32
    go_wp2_with fail
    refine bodyPost_ret (v := .tuple #[.agg #[.int .i64 2, .int .i64 x, .slice none 0 0], .int .i64 0]) ?_ rfl ⟨rfl, ?_⟩
    · obtain ⟨s0, s1, s2⟩ := set3 (y0 := .int .i64 2) (y1 := .int .i64 x) (y2 := .slice none 0 0) d30 d31 d32
      simp [results, Try.results10, go_sem, s0, s1, s2]
    · exact below_set3 (below_step hB hs2) (by omega)
theorem geq_h (a b : Int) (w : World) : Calls Try.prog 33 #[.int .i64 a, .int .i64 b] w fun e w' => e = .returned (.bool (decide (b ≤ a))) ∧ w = w' := by
  go_enter Try.func33, Try.ntmps33
  go_wp2
  go_ret
  exact ⟨rfl, rfl⟩
set_option maxRecDepth 100000 in
set_option maxHeartbeats 1000000 in
theorem two_geq {A B : Option Addr} {n m c d : Nat} (a b : Int) (w : World) :
    Calls Try.prog 10 #[.string ⟨#[62, 61]⟩, .agg #[.int .i64 1, .int .i64 a, .slice A n c], .agg #[.int .i64 1, .int .i64 b, .slice B m d]] w fun e w' => e = .returned (.tuple #[vbool (decide (b ≤ a)), .int .i64 0]) ∧ Below w.heap.size w w' := by
  have K := hid (fun w => geq_h a b w)
  generalize hr : (decide (b ≤ a)) = r at K
  clear hr
  have q1 := n43f
  have q2 := n43n
  have q3 := n32f
  have q4 := n32n
  unfold vbool
  have K2 := hid (fun w => bool_any r w)
  unfold vbool at K2
  generalize (if r = true then (1 : Int) else 0) = x at K2
  · go_enter Try.func10, Try.ntmps10
    go_wp2_with fail
    refine (of_geq _).mono ?_
    rintro e w1 ⟨rfl, hb1⟩
    have hB := boxes3_below hb1
    obtain ⟨b1, b2, b3, b4, hz3⟩ := boxes3 hb1
    have c10 := b1 0 _ rfl
    have c11 := b1 1 _ rfl
    have c20 := b2 0 _ rfl
    have c21 := b2 1 _ rfl
    have c30 := b3 0 _ rfl
    have c31 := b3 1 _ rfl
    have c32 := b3 2 _ rfl
    have f30 := b4 0
    have f31 := b4 1
    have f32 := b4 2
    have hz2 : w.heap.size + 1 < w1.heap.size := by omega
    have hz1 : w.heap.size < w1.heap.size := by omega
    clear b1 b2 b3 b4
    go_wp2_with fail
    refine (K.out _).mono ?_
    rintro e w' ⟨rfl, rfl⟩
    go_wp2_with fail
    refine (K2.out _).mono ?_
    rintro e w2 ⟨rfl, hb2⟩
    have hs2 := below_step (below_alloc w1 _) hb2
    have d30 := (hs2.cell (cell_lt c30)).trans c30
    have d31 := (hs2.cell (cell_lt c31)).trans c31
    have d32 := (hs2.cell (cell_lt c32)).trans c32
    have g30 := (hs2.frozen (p := ⟨w.heap.size + 1 + 1, 0, none⟩) hz3).trans f30
    have g31 := (hs2.frozen (p := ⟨w.heap.size + 1 + 1, 1, none⟩) hz3).trans f31
    have g32 := (hs2.frozen (p := ⟨w.heap.size + 1 + 1, 2, none⟩) hz3).trans f32
    go_wp2_with fail
    refine bodyPost_ret (v := .tuple #[.agg #[.int .i64 2, .int .i64 x, .slice none 0 0], .int .i64 0]) ?_ rfl ⟨rfl, ?_⟩
    · obtain ⟨s0, s1, s2⟩ := set3 (y0 := .int .i64 2) (y1 := .int .i64 x) (y2 := .slice none 0 0) d30 d31 d32
      simp [results, Try.results10, go_sem, s0, s1, s2]
    · exact below_set3 (below_step hB hs2) (by omega)
theorem eql_h (a b : Int) (w : World) : Calls Try.prog 34 #[.int .i64 a, .int .i64 b] w fun e w' => e = .returned (.bool (a == b)) ∧ w = w' := by
  go_enter Try.func34, Try.ntmps34
  go_wp2
  go_ret
  exact ⟨rfl, rfl⟩
set_option maxRecDepth 100000 in
set_option maxHeartbeats 1000000 in
theorem two_eql {A B : Option Addr} {n m c d : Nat} (a b : Int) (w : World) :
    Calls Try.prog 10 #[.string ⟨#[61, 61]⟩, .agg #[.int .i64 1, .int .i64 a, .slice A n c], .agg #[.int .i64 1, .int .i64 b, .slice B m d]] w fun e w' => e = .returned (.tuple #[vbool (a == b), .int .i64 0]) ∧ Below w.heap.size w w' := by
  have K := hid (fun w => eql_h a b w)
  generalize hr : (a == b) = r at K
  clear hr
  have q1 := n43f
  have q2 := n43n
  have q3 := n32f
  have q4 := n32n
  unfold vbool
  have K2 := hid (fun w => bool_any r w)
  unfold vbool at K2
  generalize (if r = true then (1 : Int) else 0) = x at K2
  · go_enter Try.func10, Try.ntmps10
    go_wp2_with fail
    refine (of_eql _).mono ?_
    rintro e w1 ⟨rfl, hb1⟩
    have hB := boxes3_below hb1
    obtain ⟨b1, b2, b3, b4, hz3⟩ := boxes3 hb1
    have c10 := b1 0 _ rfl
    have c11 := b1 1 _ rfl
    have c20 := b2 0 _ rfl
    have c21 := b2 1 _ rfl
    have c30 := b3 0 _ rfl
    have c31 := b3 1 _ rfl
    have c32 := b3 2 _ rfl
    have f30 := b4 0
    have f31 := b4 1
    have f32 := b4 2
    have hz2 : w.heap.size + 1 < w1.heap.size := by omega
    have hz1 : w.heap.size < w1.heap.size := by omega
    clear b1 b2 b3 b4
    go_wp2_with fail
    refine (K.out _).mono ?_
    rintro e w' ⟨rfl, rfl⟩
    go_wp2_with fail
    refine (K2.out _).mono ?_
    rintro e w2 ⟨rfl, hb2⟩
    have hs2 := below_step (below_alloc w1 _) hb2
    have d30 := (hs2.cell (cell_lt c30)).trans c30
    have d31 := (hs2.cell (cell_lt c31)).trans c31
    have d32 := (hs2.cell (cell_lt c32)).trans c32
    have g30 := (hs2.frozen (p := ⟨w.heap.size + 1 + 1, 0, none⟩) hz3).trans f30
    have g31 := (hs2.frozen (p := ⟨w.heap.size + 1 + 1, 1, none⟩) hz3).trans f31
    have g32 := (hs2.frozen (p := ⟨w.heap.size + 1 + 1, 2, none⟩) hz3).trans f32
    go_wp2_with fail
    refine bodyPost_ret (v := .tuple #[.agg #[.int .i64 2, .int .i64 x, .slice none 0 0], .int .i64 0]) ?_ rfl ⟨rfl, ?_⟩
    · obtain ⟨s0, s1, s2⟩ := set3 (y0 := .int .i64 2) (y1 := .int .i64 x) (y2 := .slice none 0 0) d30 d31 d32
      simp [results, Try.results10, go_sem, s0, s1, s2]
    · exact below_set3 (below_step hB hs2) (by omega)
theorem neq_h (a b : Int) (w : World) : Calls Try.prog 37 #[.int .i64 a, .int .i64 b] w fun e w' => e = .returned (.bool (a != b)) ∧ w = w' := by
  go_enter Try.func37, Try.ntmps37
  go_wp2
  go_ret
  exact ⟨rfl, rfl⟩
set_option maxRecDepth 100000 in
set_option maxHeartbeats 1000000 in
theorem two_neq {A B : Option Addr} {n m c d : Nat} (a b : Int) (w : World) :
    Calls Try.prog 10 #[.string ⟨#[33, 61]⟩, .agg #[.int .i64 1, .int .i64 a, .slice A n c], .agg #[.int .i64 1, .int .i64 b, .slice B m d]] w fun e w' => e = .returned (.tuple #[vbool (a != b), .int .i64 0]) ∧ Below w.heap.size w w' := by
  have K := hid (fun w => neq_h a b w)
  generalize hr : (a != b) = r at K
  clear hr
  have q1 := n43f
  have q2 := n43n
  have q3 := n32f
  have q4 := n32n
  unfold vbool
  have K2 := hid (fun w => bool_any r w)
  unfold vbool at K2
  generalize (if r = true then (1 : Int) else 0) = x at K2
  · go_enter Try.func10, Try.ntmps10
    go_wp2_with fail
    refine (of_neq _).mono ?_
    rintro e w1 ⟨rfl, hb1⟩
    have hB := boxes3_below hb1
    obtain ⟨b1, b2, b3, b4, hz3⟩ := boxes3 hb1
    have c10 := b1 0 _ rfl
    have c11 := b1 1 _ rfl
    have c20 := b2 0 _ rfl
    have c21 := b2 1 _ rfl
    have c30 := b3 0 _ rfl
    have c31 := b3 1 _ rfl
    have c32 := b3 2 _ rfl
    have f30 := b4 0
    have f31 := b4 1
    have f32 := b4 2
    have hz2 : w.heap.size + 1 < w1.heap.size := by omega
    have hz1 : w.heap.size < w1.heap.size := by omega
    clear b1 b2 b3 b4
    go_wp2_with fail
    refine (K.out _).mono ?_
    rintro e w' ⟨rfl, rfl⟩
    go_wp2_with fail
    refine (K2.out _).mono ?_
    rintro e w2 ⟨rfl, hb2⟩
    have hs2 := below_step (below_alloc w1 _) hb2
    have d30 := (hs2.cell (cell_lt c30)).trans c30
    have d31 := (hs2.cell (cell_lt c31)).trans c31
    have d32 := (hs2.cell (cell_lt c32)).trans c32
    have g30 := (hs2.frozen (p := ⟨w.heap.size + 1 + 1, 0, none⟩) hz3).trans f30
    have g31 := (hs2.frozen (p := ⟨w.heap.size + 1 + 1, 1, none⟩) hz3).trans f31
    have g32 := (hs2.frozen (p := ⟨w.heap.size + 1 + 1, 2, none⟩) hz3).trans f32
    go_wp2_with fail
    refine bodyPost_ret (v := .tuple #[.agg #[.int .i64 2, .int .i64 x, .slice none 0 0], .int .i64 0]) ?_ rfl ⟨rfl, ?_⟩
    · obtain ⟨s0, s1, s2⟩ := set3 (y0 := .int .i64 2) (y1 := .int .i64 x) (y2 := .slice none 0 0) d30 d31 d32
      simp [results, Try.results10, go_sem, s0, s1, s2]
    · exact below_set3 (below_step hB hs2) (by omega)
end Go.Proofs.Yteioiebkielaeaa
