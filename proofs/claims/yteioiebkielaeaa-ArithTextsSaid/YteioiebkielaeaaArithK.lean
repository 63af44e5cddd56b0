import Derived.Test.YteioiebkielaeaaArithJ
import Derived.Test.YteioiebkielaeaaTurn
import Derived.Deep.DeepCutAuto
namespace Go.Proofs.Yteioiebkielaeaa
open Go.RowKit Go.Cov Go.Lib
theorem froz_on {w w2 : World} (hb : Below w.heap.size w w2) {b i : Nat} (hz : b < w.heap.size) (h : w.frozen? ⟨b, i, none⟩ = false) : w2.frozen? ⟨b, i, none⟩ = false := (hb.frozen (p := ⟨b, i, none⟩) hz).trans h
/-- the values that 'Two' hands back, where it is -/
theorem t_plus {A B : Option Addr} {n m c d : Nat} (a b : Int) (w : World) (ha : -9223372036854775808 ≤ a ∧ a < 9223372036854775808) (hb : -9223372036854775808 ≤ b ∧ b < 9223372036854775808) (h : -9223372036854775808 ≤ a + b ∧ a + b < 9223372036854775808) :
    Calls Try.prog 10 #[.string ⟨#[43]⟩, .agg #[.int .i64 1, .int .i64 a, .slice A n c], .agg #[.int .i64 1, .int .i64 b, .slice B m d]] w fun e w' => e = .returned (.tuple #[.agg #[.int .i64 1, .int .i64 (a + b), .slice none 0 0], .int .i64 0]) ∧ Below w.heap.size w w' := by
  have := two_plus (A := A) (B := B) (n := n) (m := m) (c := c) (d := d) a b w ha hb
  rw [inR_ok h.1 h.2] at this
  exact this
theorem t_plus_no {A B : Option Addr} {n m c d : Nat} (a b : Int) (w : World) (ha : -9223372036854775808 ≤ a ∧ a < 9223372036854775808) (hb : -9223372036854775808 ≤ b ∧ b < 9223372036854775808) (h : ¬ (-9223372036854775808 ≤ a + b ∧ a + b < 9223372036854775808)) :
    Calls Try.prog 10 #[.string ⟨#[43]⟩, .agg #[.int .i64 1, .int .i64 a, .slice A n c], .agg #[.int .i64 1, .int .i64 b, .slice B m d]] w fun e w' => e = .returned (.tuple #[.agg #[.int .i64 0, .int .i64 0, .slice none 0 0], .int .i64 3]) ∧ Below w.heap.size w w' := by
  have := two_plus (A := A) (B := B) (n := n) (m := m) (c := c) (d := d) a b w ha hb
  rw [inR_no h] at this
  exact this
theorem t_minus {A B : Option Addr} {n m c d : Nat} (a b : Int) (w : World) (ha : -9223372036854775808 ≤ a ∧ a < 9223372036854775808) (hb : -9223372036854775808 ≤ b ∧ b < 9223372036854775808) (h : -9223372036854775808 ≤ a - b ∧ a - b < 9223372036854775808) :
    Calls Try.prog 10 #[.string ⟨#[45]⟩, .agg #[.int .i64 1, .int .i64 a, .slice A n c], .agg #[.int .i64 1, .int .i64 b, .slice B m d]] w fun e w' => e = .returned (.tuple #[.agg #[.int .i64 1, .int .i64 (a - b), .slice none 0 0], .int .i64 0]) ∧ Below w.heap.size w w' := by
  have := two_minus (A := A) (B := B) (n := n) (m := m) (c := c) (d := d) a b w ha hb
  rw [inR_ok h.1 h.2] at this
  exact this
theorem t_minus_no {A B : Option Addr} {n m c d : Nat} (a b : Int) (w : World) (ha : -9223372036854775808 ≤ a ∧ a < 9223372036854775808) (hb : -9223372036854775808 ≤ b ∧ b < 9223372036854775808) (h : ¬ (-9223372036854775808 ≤ a - b ∧ a - b < 9223372036854775808)) :
    Calls Try.prog 10 #[.string ⟨#[45]⟩, .agg #[.int .i64 1, .int .i64 a, .slice A n c], .agg #[.int .i64 1, .int .i64 b, .slice B m d]] w fun e w' => e = .returned (.tuple #[.agg #[.int .i64 0, .int .i64 0, .slice none 0 0], .int .i64 3]) ∧ Below w.heap.size w w' := by
  have := two_minus (A := A) (B := B) (n := n) (m := m) (c := c) (d := d) a b w ha hb
  rw [inR_no h] at this
  exact this
theorem t_star {A B : Option Addr} {n m c d : Nat} (a b : Int) (w : World) (ha : -9223372036854775808 ≤ a ∧ a < 9223372036854775808) (hb : -9223372036854775808 ≤ b ∧ b < 9223372036854775808) (h : -9223372036854775808 ≤ a * b ∧ a * b < 9223372036854775808) :
    Calls Try.prog 10 #[.string ⟨#[42]⟩, .agg #[.int .i64 1, .int .i64 a, .slice A n c], .agg #[.int .i64 1, .int .i64 b, .slice B m d]] w fun e w' => e = .returned (.tuple #[.agg #[.int .i64 1, .int .i64 (a * b), .slice none 0 0], .int .i64 0]) ∧ Below w.heap.size w w' := by
  have := two_star (A := A) (B := B) (n := n) (m := m) (c := c) (d := d) a b w ha hb
  rw [inR_ok h.1 h.2] at this
  exact this
theorem t_star_no {A B : Option Addr} {n m c d : Nat} (a b : Int) (w : World) (ha : -9223372036854775808 ≤ a ∧ a < 9223372036854775808) (hb : -9223372036854775808 ≤ b ∧ b < 9223372036854775808) (h : ¬ (-9223372036854775808 ≤ a * b ∧ a * b < 9223372036854775808)) :
    Calls Try.prog 10 #[.string ⟨#[42]⟩, .agg #[.int .i64 1, .int .i64 a, .slice A n c], .agg #[.int .i64 1, .int .i64 b, .slice B m d]] w fun e w' => e = .returned (.tuple #[.agg #[.int .i64 0, .int .i64 0, .slice none 0 0], .int .i64 3]) ∧ Below w.heap.size w w' := by
  have := two_star (A := A) (B := B) (n := n) (m := m) (c := c) (d := d) a b w ha hb
  rw [inR_no h] at this
  exact this
end Go.Proofs.Yteioiebkielaeaa
