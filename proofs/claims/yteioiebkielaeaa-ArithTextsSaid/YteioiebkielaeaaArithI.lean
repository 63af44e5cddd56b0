import Derived.Test.YteioiebkielaeaaArithE
import Derived.Test.YteioiebkielaeaaArithF
import Derived.Test.YteioiebkielaeaaArithG
import Derived.Test.YteioiebkielaeaaArithH
namespace Go.Proofs.Yteioiebkielaeaa
open Go.RowKit Go.Cov Go.Lib
theorem infoB : (Try.prog.info? 5).map (fun i => (i.zero, i.size, i.bytes)) = some (some (.int .u8 0), 1, 1) := by kernel_rfl
theorem boxes2 {w w1 : World} {x y : Array Value} {t : TypeId} (hb : Below ((w.alloc (.cells x t)).alloc (.cells y t)).heap.size ((w.alloc (.cells x t)).alloc (.cells y t)) w1) :
    (∀ i v, x[i]? = some v → w1.cell? ⟨w.heap.size, i, none⟩ = some v) ∧ (∀ i v, y[i]? = some v → w1.cell? ⟨w.heap.size + 1, i, none⟩ = some v) ∧ (∀ i, w1.frozen? ⟨w.heap.size + 1, i, none⟩ = false) ∧ w.heap.size + 1 < w1.heap.size := by
  obtain ⟨hc, hf⟩ := bcell hb
  have hz := hb.size
  simp at hz
  have b1 := below_alloc (w.alloc (.cells x t)) (.cells y t)
  have s1 : (w.alloc (.cells x t)).heap.size = w.heap.size + 1 := by simp
  refine ⟨fun i v hv => ?_, fun i v hv => ?_, fun i => ?_, by omega⟩
  · rw [hc _ _ (by simp; omega), b1.cell (p := ⟨w.heap.size, i, none⟩) (by rw [s1]; show w.heap.size < _; omega)]
    exact box_cell w x t i v hv
  · rw [hc _ _ (by simp)]
    have := box_cell (w.alloc (.cells x t)) y t i v hv
    rw [s1] at this
    exact this
  · rw [hf _ _ (by simp)]
    have := World.frozen?_alloc_new (w := w.alloc (.cells x t)) y t i
    rw [s1] at this
    exact this
theorem boxes2_below {w w1 : World} {x y : Array Value} {t : TypeId} (hb : Below ((w.alloc (.cells x t)).alloc (.cells y t)).heap.size ((w.alloc (.cells x t)).alloc (.cells y t)) w1) : Below w.heap.size w w1 := below_step (below_step (below_alloc w _) (below_alloc _ _)) hb
set_option maxRecDepth 100000 in
set_option maxHeartbeats 1000000 in
theorem one_not {A : Option Addr} {n c : Nat} (a : Int) (w : World) :
    Calls Try.prog 15 #[.string ⟨#[33]⟩, .agg #[.int .i64 2, .int .i64 a, .slice A n c]] w fun e w' => e = .returned (.tuple #[vbool (a != 1), .int .i64 0]) ∧ Below w.heap.size w w' := by
  unfold vbool
  have K2 := hid (fun w => bool_any (a != 1) w)
  unfold vbool at K2
  generalize (if (a != 1) = true then (1 : Int) else 0) = x at K2
  go_enter Try.func15, Try.ntmps15
  go_wp2_with fail
  refine (K2.out _).mono ?_
  rintro e w2 ⟨rfl, hb2⟩
  obtain ⟨b1, b2, b3, hz⟩ := boxes2 hb2
  have d30 := b2 0 _ rfl
  have d31 := b2 1 _ rfl
  have d32 := b2 2 _ rfl
  have g30 := b3 0
  have g31 := b3 1
  have g32 := b3 2
  clear b1 b2 b3
  go_wp2_with fail
  refine bodyPost_ret (v := .tuple #[.agg #[.int .i64 2, .int .i64 x, .slice none 0 0], .int .i64 0]) ?_ rfl ⟨rfl, ?_⟩
  · obtain ⟨s0, s1, s2⟩ := set3 (y0 := .int .i64 2) (y1 := .int .i64 x) (y2 := .slice none 0 0) d30 d31 d32
    simp [results, Try.results15, go_sem, s0, s1, s2]
  · exact below_set3 (boxes2_below hb2) (by omega)
set_option maxRecDepth 100000 in
set_option maxHeartbeats 1000000 in
theorem one_neg {A : Option Addr} {n c : Nat} (a : Int) (w : World) (ha : -9223372036854775808 < a ∧ a < 9223372036854775808) :
    Calls Try.prog 15 #[.string ⟨#[45]⟩, .agg #[.int .i64 1, .int .i64 a, .slice A n c]] w fun e w' => e = .returned (.tuple #[.agg #[.int .i64 1, .int .i64 (-a), .slice none 0 0], .int .i64 0]) ∧ Below w.heap.size w w' := by
  have h1 : (a == -9223372036854775808) = false := beq_eq_false_iff_ne.2 (by omega)
  have e1 := wrap_of (-a) (by omega) (by omega)
  clear ha
  go_enter Try.func15, Try.ntmps15
  go_wp2_with fail
  refine (num_any _ _).mono ?_
  rintro e w2 ⟨rfl, hb2⟩
  obtain ⟨b1, b2, b3, hz⟩ := boxes2 hb2
  have d30 := b2 0 _ rfl
  have d31 := b2 1 _ rfl
  have d32 := b2 2 _ rfl
  have g30 := b3 0
  have g31 := b3 1
  have g32 := b3 2
  clear b1 b2 b3
  go_wp2_with fail
  refine bodyPost_ret (v := .tuple #[.agg #[.int .i64 1, .int .i64 (-a), .slice none 0 0], .int .i64 0]) ?_ rfl ⟨rfl, ?_⟩
  · obtain ⟨s0, s1, s2⟩ := set3 (y0 := .int .i64 1) (y1 := .int .i64 (-a)) (y2 := .slice none 0 0) d30 d31 d32
    simp [results, Try.results15, go_sem, s0, s1, s2]
  · exact below_set3 (boxes2_below hb2) (by omega)
set_option maxRecDepth 100000 in
set_option maxHeartbeats 1000000 in
theorem one_min {A : Option Addr} {n c : Nat} (w : World) :
    Calls Try.prog 15 #[.string ⟨#[45]⟩, .agg #[.int .i64 1, .int .i64 (-9223372036854775808), .slice A n c]] w fun e w' => e = .returned (.tuple #[.agg #[.int .i64 0, .int .i64 0, .slice none 0 0], .int .i64 3]) ∧ Below w.heap.size w w' := by
  go_enter Try.func15, Try.ntmps15
  go_wp2_with fail
  refine bodyPost_ret (v := .tuple #[.agg #[.int .i64 0, .int .i64 0, .slice none 0 0], .int .i64 3]) (by simp [results, Try.results15, go_sem]) rfl ⟨rfl, ?_⟩
  exact below_step (below_alloc w _) (below_alloc _ _)
theorem grown_set {a w : World} {g : Nat} (h : a.grownBy w (some g)) (i : Nat) (u : Value) : a.grownBy (w.setCell ⟨g, i, none⟩ u) (some g) :=
  ⟨h.os, h.tape, h.output, by simpa [World.setCell] using h.size, fun i hi hne => (Below.heap_setCell w _ u i (by rintro rfl; exact hne rfl)).trans (h.block i hi hne)⟩
theorem grown_set3 (w : World) (g : Nat) (y0 y1 y2 : Value) : w.grownBy (((w.setCell ⟨g, 0, none⟩ y0).setCell ⟨g, 1, none⟩ y1).setCell ⟨g, 2, none⟩ y2) (some g) := grown_set (grown_set (grown_set (World.grownBy.refl w _) 0 y0) 1 y1) 2 y2
theorem clone_any {A : Option Addr} {c : Nat} {l : List UInt8} {w : World} (h : Rd w A (l.map byt)) (hl : l.length ≤ 140737488351236) :
    Calls Try.prog 21 #[.slice A l.length c] w fun e w' => ∃ v, e = .returned v ∧ w'.ownsRow w.heap.size 5 1 v l.length (l.map byt) ∧ Below w.heap.size w w' := by
  have q22 : ∀ (w : World) (a : Option Addr) (n c n' c' : Nat), (binOp .eql 24 (.slice a n c) (.slice none n' c')).run Try.prog w = .ok (.bool a.isNone) w := fun w a n c n' c' => Lib.run_eql_slice_nil w _ _ a n c n' c' Try.underlying24
  cases A with
  | none =>
    have hl0 : l = [] := by
      cases l with
      | nil => rfl
      | cons x l => obtain ⟨ad, hA, _⟩ := h 0 (byt x) rfl; cases hA
    subst hl0
    go_enter Try.func21, Try.ntmps21
    go_wp2_with fail
    go_ret
    exact ⟨_, rfl, World.ownsRow_nil _ _ _ _, Below.refl _ _⟩
  | some ad =>
    have hown : (w.alloc (.cells #[] 5)).ownsRow w.heap.size 5 1 (.slice (some ⟨w.heap.size, 0, none⟩) 0 0) 0 [] := World.ownsRow_made w #[] 0 (Nat.le_refl _) (by simp [maxLen]) rfl
    go_enter Try.func21, Try.ntmps21
    go_wp2_with (at_builtin; refine wpList_app rfl (.tmp 5) (.tmp 6) 24 rfl w.heap.size 5 Try.underlying24 infoB rfl (by decide) (.slice (some ⟨w.heap.size, 0, none⟩) 0 0) 0 _ rfl hown (some ad) l.length c (l.map byt) rfl (by simp) (h.alloc _) (byt_one l) (by omega) (by omega) (by simp) ?_; intro v2 w2 hin2 hg2 hat2; simp only [Nat.zero_add, List.nil_append] at hin2; have hb2 : Below w.heap.size w w2 := ((below_alloc w _).grown hg2 (by simp) (by intro k hk; simp [Value.ownBlock] at hk; omega)))
    go_ret
    exact ⟨_, rfl, hin2, hb2⟩
set_option maxRecDepth 100000 in
theorem text_any {A : Option Addr} {c : Nat} {l : List UInt8} {w : World} (h : Rd w A (l.map byt)) (hl : l.length ≤ 140737488351236) :
    Calls Try.prog 13 #[.slice A l.length c] w fun e w' => ∃ B d, e = .returned (.agg #[.int .i64 3, .int .i64 0, .slice B l.length d]) ∧ w'.ownsRow w.heap.size 5 1 (.slice B l.length d) l.length (l.map byt) ∧ Below w.heap.size w w' := by
  have K := hid (fun W (hW : Rd W A (l.map byt)) => clone_any (c := c) hW hl)
  go_enter Try.func13, Try.ntmps13
  go_wp2_with fail
  refine (K.out _ (h.alloc _)).mono ?_
  rintro e w2 ⟨v2, rfl, own2, hb2⟩
  obtain ⟨B, d, rfl, hd, hdm, _⟩ := own_shape own2
  have hB := below_step (below_alloc w _) hb2
  have d30 : w2.cell? ⟨w.heap.size, 0, none⟩ = some (.int .i64 0) := (hb2.cell (p := ⟨w.heap.size, 0, none⟩) (by simp)).trans (box_cell w _ _ 0 _ rfl)
  have d31 : w2.cell? ⟨w.heap.size, 1, none⟩ = some (.int .i64 0) := (hb2.cell (p := ⟨w.heap.size, 1, none⟩) (by simp)).trans (box_cell w _ _ 1 _ rfl)
  have d32 : w2.cell? ⟨w.heap.size, 2, none⟩ = some (.slice none 0 0) := (hb2.cell (p := ⟨w.heap.size, 2, none⟩) (by simp)).trans (box_cell w _ _ 2 _ rfl)
  have g30 : w2.frozen? ⟨w.heap.size, 0, none⟩ = false := (hb2.frozen (p := ⟨w.heap.size, 0, none⟩) (by simp)).trans (World.frozen?_alloc_new (w := w) _ _ 0)
  have g31 : w2.frozen? ⟨w.heap.size, 1, none⟩ = false := (hb2.frozen (p := ⟨w.heap.size, 1, none⟩) (by simp)).trans (World.frozen?_alloc_new (w := w) _ _ 1)
  have g32 : w2.frozen? ⟨w.heap.size, 2, none⟩ = false := (hb2.frozen (p := ⟨w.heap.size, 2, none⟩) (by simp)).trans (World.frozen?_alloc_new (w := w) _ _ 2)
  go_wp2_with fail
  refine bodyPost_ret (v := .agg #[.int .i64 3, .int .i64 0, .slice B l.length d]) ?_ rfl ⟨_, _, rfl, ?_, ?_⟩
  · obtain ⟨s0, s1, s2⟩ := set3 (y0 := .int .i64 3) (y1 := .int .i64 0) (y2 := .slice B l.length d) d30 d31 d32
    simp [results, Try.results13, go_sem, s0, s1, s2]
  · exact own_mono (own_keep own2 (grown_set3 w2 w.heap.size _ _ _) (fun g hg => by cases hg; simp)) (by simp)
  · exact below_set3 hB (Nat.le_refl _)
end Go.Proofs.Yteioiebkielaeaa
