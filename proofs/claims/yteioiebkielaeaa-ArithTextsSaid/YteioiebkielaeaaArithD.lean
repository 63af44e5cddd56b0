import Derived.Test.YteioiebkielaeaaArithC
import Derived.Test.YteioiebkielaeaaTurn
namespace Go.Proofs.Yteioiebkielaeaa
open Go.RowKit Go.Cov Go.Lib
/-- an int, or nothing -/
def vres (r : Int × Int) : Value := if r.2 = 0 then .agg #[.int .i64 1, .int .i64 r.1, .slice none 0 0] else .agg #[.int .i64 0, .int .i64 0, .slice none 0 0]
/-- a bool -/
def vbool (b : Bool) : Value := .agg #[.int .i64 2, .int .i64 (if b then 1 else 0), .slice none 0 0]
theorem eqin_no (d : Nat) (t : TypeId) (w : World) (f : Fn) (x y : Array Value) (ht : ∃ a b c, Try.prog.underlying t = some (.func a b c)) : (Op.equalIn (d + 1) t (.func f x y) .nilFunc).run Try.prog w = .ok false w := by
  obtain ⟨a, b, c, ht⟩ := ht
  simp [Op.equalIn, run_underlying ht]
theorem eqin_nil (d : Nat) (t : TypeId) (w : World) (ht : ∃ a b c, Try.prog.underlying t = some (.func a b c)) : (Op.equalIn (d + 1) t .nilFunc .nilFunc).run Try.prog w = .ok true w := by
  obtain ⟨a, b, c, ht⟩ := ht
  simp [Op.equalIn, run_underlying ht]
theorem neq_func (t : TypeId) (ht : ∃ a b c, Try.prog.underlying t = some (.func a b c)) (f : Fn) (x y : Array Value) (w : World) : (binOp .neq t (.func f x y) .nilFunc).run Try.prog w = .ok (.bool true) w := by
  simp only [binOp]
  simp [Op.equal, Op.maxDepth, eqin_no 9999 t w f x y ht]
theorem neq_nil (t : TypeId) (ht : ∃ a b c, Try.prog.underlying t = some (.func a b c)) (w : World) : (binOp .neq t .nilFunc .nilFunc).run Try.prog w = .ok (.bool false) w := by
  simp only [binOp]
  simp [Op.equal, Op.maxDepth, eqin_nil 9999 t w ht]
theorem n43f (f : Fn) (x y : Array Value) (w : World) : (binOp .neq 43 (.func f x y) .nilFunc).run Try.prog w = .ok (.bool true) w := neq_func _ ⟨_, _, _, Try.underlying43⟩ f x y w
theorem n43n (w : World) : (binOp .neq 43 .nilFunc .nilFunc).run Try.prog w = .ok (.bool false) w := neq_nil _ ⟨_, _, _, Try.underlying43⟩ w
theorem n32f (f : Fn) (x y : Array Value) (w : World) : (binOp .neq 32 (.func f x y) .nilFunc).run Try.prog w = .ok (.bool true) w := neq_func _ ⟨_, _, _, Try.underlying32⟩ f x y w
theorem n32n (w : World) : (binOp .neq 32 .nilFunc .nilFunc).run Try.prog w = .ok (.bool false) w := neq_nil _ ⟨_, _, _, Try.underlying32⟩ w
theorem n44f (f : Fn) (x y : Array Value) (w : World) : (binOp .neq 44 (.func f x y) .nilFunc).run Try.prog w = .ok (.bool true) w := neq_func _ ⟨_, _, _, Try.underlying44⟩ f x y w
theorem n44n (w : World) : (binOp .neq 44 .nilFunc .nilFunc).run Try.prog w = .ok (.bool false) w := neq_nil _ ⟨_, _, _, Try.underlying44⟩ w
theorem n45n (w : World) : (binOp .neq 45 .nilFunc .nilFunc).run Try.prog w = .ok (.bool false) w := neq_nil _ ⟨_, _, _, Try.underlying45⟩ w
theorem set3 {w : World} {b : Nat} {x0 x1 x2 y0 y1 y2 : Value} (h0 : w.cell? ⟨b, 0, none⟩ = some x0) (h1 : w.cell? ⟨b, 1, none⟩ = some x1) (h2 : w.cell? ⟨b, 2, none⟩ = some x2) :
    (w.setCell ⟨b, 0, none⟩ y0).cell? ⟨b, 0, none⟩ = some y0 ∧ ((w.setCell ⟨b, 0, none⟩ y0).setCell ⟨b, 1, none⟩ y1).cell? ⟨b, 1, none⟩ = some y1 ∧ (((w.setCell ⟨b, 0, none⟩ y0).setCell ⟨b, 1, none⟩ y1).setCell ⟨b, 2, none⟩ y2).cell? ⟨b, 2, none⟩ = some y2 := by
  refine ⟨World.cell?_setCell_same' _ _ _ (by rw [h0]; rfl), World.cell?_setCell_same' _ _ _ ?_, World.cell?_setCell_same' _ _ _ ?_⟩
  · rw [World.cell?_setCell_other _ _ _ _ (by simp), h1]; rfl
  · rw [World.cell?_setCell_other _ _ _ _ (by simp), World.cell?_setCell_other _ _ _ _ (by simp), h2]; rfl
theorem below_set3 {a w : World} {b : Nat} {y0 y1 y2 : Value} (h : Below a.heap.size a w) (hb : a.heap.size ≤ b) : Below a.heap.size a (((w.setCell ⟨b, 0, none⟩ y0).setCell ⟨b, 1, none⟩ y1).setCell ⟨b, 2, none⟩ y2) := ((h.setCell (p := ⟨b, 0, none⟩) hb _).setCell (p := ⟨b, 1, none⟩) hb _).setCell (p := ⟨b, 2, none⟩) hb _
theorem boxes3_below {w w1 : World} {x y z : Array Value} {t : TypeId} (hb : Below (((w.alloc (.cells x t)).alloc (.cells y t)).alloc (.cells z t)).heap.size (((w.alloc (.cells x t)).alloc (.cells y t)).alloc (.cells z t)) w1) : Below w.heap.size w w1 :=
  below_step (below_step (below_step (below_alloc w _) (below_alloc _ _)) (below_alloc _ _)) hb
theorem bcell {W w1 : World} (hb : Below W.heap.size W w1) : (∀ b o, b < W.heap.size → w1.cell? ⟨b, o, none⟩ = W.cell? ⟨b, o, none⟩) ∧ (∀ b o, b < W.heap.size → w1.frozen? ⟨b, o, none⟩ = W.frozen? ⟨b, o, none⟩) :=
  ⟨fun b o h => hb.cell (p := ⟨b, o, none⟩) h, fun b o h => hb.frozen (p := ⟨b, o, none⟩) h⟩
theorem boxes3 {w w1 : World} {x y z : Array Value} {t : TypeId} (hb : Below (((w.alloc (.cells x t)).alloc (.cells y t)).alloc (.cells z t)).heap.size (((w.alloc (.cells x t)).alloc (.cells y t)).alloc (.cells z t)) w1) :
    (∀ i v, x[i]? = some v → w1.cell? ⟨w.heap.size, i, none⟩ = some v) ∧ (∀ i v, y[i]? = some v → w1.cell? ⟨w.heap.size + 1, i, none⟩ = some v) ∧ (∀ i v, z[i]? = some v → w1.cell? ⟨w.heap.size + 1 + 1, i, none⟩ = some v) ∧ (∀ i, w1.frozen? ⟨w.heap.size + 1 + 1, i, none⟩ = false) ∧ w.heap.size + 1 + 1 < w1.heap.size := by
  obtain ⟨hc, hf⟩ := bcell hb
  have hz := hb.size
  simp at hz
  have b1 := below_alloc (w.alloc (.cells x t)) (.cells y t)
  have b2 := below_alloc ((w.alloc (.cells x t)).alloc (.cells y t)) (.cells z t)
  have s1 : (w.alloc (.cells x t)).heap.size = w.heap.size + 1 := by simp
  have s2 : ((w.alloc (.cells x t)).alloc (.cells y t)).heap.size = w.heap.size + 1 + 1 := by simp
  refine ⟨fun i v hv => ?_, fun i v hv => ?_, fun i v hv => ?_, fun i => ?_, by omega⟩
  · rw [hc _ _ (by simp; omega), b2.cell (p := ⟨w.heap.size, i, none⟩) (by rw [s2]; show w.heap.size < _; omega), b1.cell (p := ⟨w.heap.size, i, none⟩) (by rw [s1]; show w.heap.size < _; omega)]
    exact box_cell w x t i v hv
  · rw [hc _ _ (by simp), b2.cell (p := ⟨w.heap.size + 1, i, none⟩) (by rw [s2]; show w.heap.size + 1 < _; omega)]
    have := box_cell (w.alloc (.cells x t)) y t i v hv
    rw [s1] at this
    exact this
  · rw [hc _ _ (by simp)]
    have := box_cell ((w.alloc (.cells x t)).alloc (.cells y t)) z t i v hv
    rw [s2] at this
    exact this
  · rw [hf _ _ (by simp)]
    have := World.frozen?_alloc_new (w := (w.alloc (.cells x t)).alloc (.cells y t)) z t i
    rw [s2] at this
    exact this
set_option maxRecDepth 100000 in
theorem num_any (n : Int) (w : World) : Calls Try.prog 11 #[.int .i64 n] w fun e w' => e = .returned (.agg #[.int .i64 1, .int .i64 n, .slice none 0 0]) ∧ Below w.heap.size w w' := by
  go_enter Try.func11, Try.ntmps11
  go_wp2_with fail
  exact bodyPost_ret (v := .agg #[.int .i64 1, .int .i64 n, .slice none 0 0]) (by simp [results, Try.results11, go_sem]) rfl ⟨rfl, below_alloc w _⟩
set_option maxRecDepth 100000 in
theorem bool_any (b : Bool) (w : World) : Calls Try.prog 17 #[.bool b] w fun e w' => e = .returned (vbool b) ∧ Below w.heap.size w w' := by
  cases b
  · go_enter Try.func17, Try.ntmps17
    go_wp2_with fail
    exact bodyPost_ret (v := .agg #[.int .i64 2, .int .i64 0, .slice none 0 0]) (by simp [results, Try.results17, go_sem]) rfl ⟨rfl, ((Below.refl _ _).alloc (Nat.le_refl _) _).alloc (by simp) _⟩
  · go_enter Try.func17, Try.ntmps17
    go_wp2_with fail
    exact bodyPost_ret (v := .agg #[.int .i64 2, .int .i64 1, .slice none 0 0]) (by simp [results, Try.results17, go_sem]) rfl ⟨rfl, ((Below.refl _ _).alloc (Nat.le_refl _) _).alloc (by simp) _⟩
set_option maxRecDepth 100000 in
set_option maxHeartbeats 1000000 in
theorem two_plus {A B : Option Addr} {n m c d : Nat} (a b : Int) (w : World) (ha : -9223372036854775808 ≤ a ∧ a < 9223372036854775808) (hb : -9223372036854775808 ≤ b ∧ b < 9223372036854775808) :
    Calls Try.prog 10 #[.string ⟨#[43]⟩, .agg #[.int .i64 1, .int .i64 a, .slice A n c], .agg #[.int .i64 1, .int .i64 b, .slice B m d]] w fun e w' => e = .returned (.tuple #[vres (inR (a + b)), .int .i64 (inR (a + b)).2]) ∧ Below w.heap.size w w' := by
  have K := hid (fun w => plus_any a b w ha hb)
  generalize inR (a + b) = r at K
  obtain ⟨x, t⟩ := r
  dsimp only at K
  have q1 := n43f
  have q2 := n43n
  by_cases ht : t = 0
  · subst ht
    go_enter Try.func10, Try.ntmps10
    go_wp2_with fail
    refine (of_plus _).mono ?_
    rintro e w1 ⟨rfl, hb1⟩
    have hB := boxes3_below hb1
    obtain ⟨b1, b2, b3, b4, hz3⟩ := boxes3 hb1
    have c10 := b1 0 _ rfl
    have c11 := b1 1 _ rfl
    have c20 := b2 0 _ rfl
    have c21 := b2 1 _ rfl
    have c30 := b3 0 _ rfl
    have c31 := b3 1 _ rfl
    have c32 := b3 2 _ rfl
    have f30 := b4 0
    have f31 := b4 1
    have f32 := b4 2
    have hz2 : w.heap.size + 1 < w1.heap.size := by omega
    have hz1 : w.heap.size < w1.heap.size := by omega
    clear b1 b2 b3 b4
    go_wp2_with fail
    refine (K.out _).mono ?_
    rintro e w' ⟨rfl, rfl⟩
    go_wp2_with fail
    refine (num_any _ _).mono ?_
    rintro e w2 ⟨rfl, hb2⟩
    have hs2 := below_step (below_alloc w1 _) hb2
    have d30 := (hs2.cell (cell_lt c30)).trans c30
    have d31 := (hs2.cell (cell_lt c31)).trans c31
    have d32 := (hs2.cell (cell_lt c32)).trans c32
    have g30 := (hs2.frozen (p := ⟨w.heap.size + 1 + 1, 0, none⟩) hz3).trans f30
    have g31 := (hs2.frozen (p := ⟨w.heap.size + 1 + 1, 1, none⟩) hz3).trans f31
    have g32 := (hs2.frozen (p := ⟨w.heap.size + 1 + 1, 2, none⟩) hz3).trans f32
    go_wp2_with fail
    refine bodyPost_ret (v := .tuple #[.agg #[.int .i64 1, .int .i64 x, .slice none 0 0], .int .i64 0]) ?_ rfl ⟨rfl, ?_⟩
    · obtain ⟨s0, s1, s2⟩ := set3 (y0 := .int .i64 1) (y1 := .int .i64 x) (y2 := .slice none 0 0) d30 d31 d32
      simp [results, Try.results10, go_sem, s0, s1, s2]
    · exact below_set3 (below_step hB hs2) (by omega)
  · have ht1 : (t != 0) = true := by simpa using ht
    have hv : Hid (vres (x, t) = .agg #[.int .i64 0, .int .i64 0, .slice none 0 0]) := hid (by rw [vres, if_neg ht])
    rw [hv.out]
    go_enter Try.func10, Try.ntmps10
    go_wp2_with fail
    refine (of_plus _).mono ?_
    rintro e w1 ⟨rfl, hb1⟩
    have hB := boxes3_below hb1
    obtain ⟨b1, b2, b3, b4, hz3⟩ := boxes3 hb1
    have c10 := b1 0 _ rfl
    have c11 := b1 1 _ rfl
    have c20 := b2 0 _ rfl
    have c21 := b2 1 _ rfl
    have c30 := b3 0 _ rfl
    have c31 := b3 1 _ rfl
    have c32 := b3 2 _ rfl
    have f30 := b4 0
    have f31 := b4 1
    have f32 := b4 2
    have hz2 : w.heap.size + 1 < w1.heap.size := by omega
    have hz1 : w.heap.size < w1.heap.size := by omega
    clear b1 b2 b3 b4
    go_wp2_with fail
    refine (K.out _).mono ?_
    rintro e w' ⟨rfl, rfl⟩
    go_wp2_with fail
    refine bodyPost_ret (v := .tuple #[.agg #[.int .i64 0, .int .i64 0, .slice none 0 0], .int .i64 t]) ?_ rfl ⟨rfl, ?_⟩
    · obtain ⟨s0, s1, s2⟩ := set3 (y0 := .int .i64 0) (y1 := .int .i64 0) (y2 := .slice none 0 0) c30 c31 c32
      simp [results, Try.results10, go_sem, s0, s1, s2, hz3]
    · exact (below_set3 hB (by omega)).alloc (by simp; omega) _
end Go.Proofs.Yteioiebkielaeaa
