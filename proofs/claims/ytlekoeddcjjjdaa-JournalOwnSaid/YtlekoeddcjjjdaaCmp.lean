import Derived.Lib.Bytealg
/-! comparing bytes is a strict order. -/
namespace Go.Cov
open Go.Lib
theorem cmp_self : ∀ a, compareBytes a a = 0
  | [] => rfl
  | x :: a => by rw [compareBytes, if_neg (UInt8.lt_irrefl x), if_neg (UInt8.lt_irrefl x)]; exact cmp_self a
theorem cmp_swap : ∀ a b, compareBytes b a = -compareBytes a b
  | [], [] => rfl
  | [], _ :: _ => rfl
  | _ :: _, [] => rfl
  | x :: a, y :: b => by
    rw [compareBytes, compareBytes]
    by_cases h1 : x < y
    · rw [if_neg (by have := UInt8.lt_asymm h1; exact this), if_pos h1, if_pos h1]; rfl
    · by_cases h2 : y < x
      · rw [if_pos h2, if_neg h1, if_pos h2]
      · rw [if_neg h2, if_neg h1, if_neg h1, if_neg h2]; exact cmp_swap a b
theorem cmp_zero : ∀ a b, compareBytes a b = 0 → a = b
  | [], [], _ => rfl
  | [], _ :: _, h => by cases h
  | _ :: _, [], h => by cases h
  | x :: a, y :: b, h => by
    rw [compareBytes] at h
    by_cases h1 : x < y
    · rw [if_pos h1] at h; cases h
    · by_cases h2 : y < x
      · rw [if_neg h1, if_pos h2] at h; cases h
      · rw [if_neg h1, if_neg h2] at h
        have : x = y := UInt8.le_antisymm (UInt8.not_lt.1 h2) (UInt8.not_lt.1 h1)
        rw [this, cmp_zero a b h]
theorem cmp_trans : ∀ a b c, compareBytes a b < 0 → compareBytes b c < 0 → compareBytes a c < 0
  | [], [], _, h, _ => by simp [compareBytes] at h
  | [], _ :: _, [], _, h => by simp [compareBytes] at h
  | [], _ :: _, _ :: _, _, _ => by simp [compareBytes]
  | _ :: _, [], _, h, _ => by simp [compareBytes] at h
  | _ :: _, _ :: _, [], _, h => by simp [compareBytes] at h
  | x :: a, y :: b, z :: c, h, g => by
    rw [compareBytes] at h g ⊢
    by_cases h1 : x < y
    · by_cases g1 : y < z
      · rw [if_pos (UInt8.lt_trans h1 g1)]; decide
      · by_cases g2 : z < y
        · rw [if_neg g1, if_pos g2] at g; exact absurd g (by decide)
        · have : y = z := UInt8.le_antisymm (UInt8.not_lt.1 g2) (UInt8.not_lt.1 g1)
          subst this
          rw [if_pos h1]; decide
    · by_cases h2 : y < x
      · rw [if_neg h1, if_pos h2] at h; exact absurd h (by decide)
      · have : x = y := UInt8.le_antisymm (UInt8.not_lt.1 h2) (UInt8.not_lt.1 h1)
        subst this
        rw [if_neg h1, if_neg h1] at h
        by_cases g1 : x < z
        · rw [if_pos g1]; decide
        · by_cases g2 : z < x
          · rw [if_neg g1, if_pos g2] at g; exact absurd g (by decide)
          · rw [if_neg g1, if_neg g2] at g ⊢
            exact cmp_trans a b c h g
theorem cmp_irrefl (a : List UInt8) : ¬ compareBytes a a < 0 := by rw [cmp_self]; decide
end Go.Cov
