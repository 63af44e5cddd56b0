import Derived.Test.YtoceipdkmafagaaWireP
/-! plain laws of 'wire': order of bytes; what stands behind changes nothing -/
namespace Go.Cov
open Go.RowKit
theorem two_pow8 (i : Nat) : (2 : Nat) ^ (8 * i) = 256 ^ i := by rw [Nat.pow_mul]
theorem bt_nat (k i : Nat) : (bt (k : Int) i).toNat = k / 256 ^ i % 256 := by
  have h := bt_int (k : Int) i
  have e : ((2 : Int) ^ (8 * i)) = ((256 ^ i : Nat) : Int) := by rw [← two_pow8]; simp
  rw [e] at h
  omega
theorem be_less (k m : Nat) : ∀ s, Op.bytesLess (be s k) (be s m) = decide (k % 256 ^ s < m % 256 ^ s)
  | 0 => by simp [be, Op.bytesLess, Nat.mod_one]
  | s + 1 => by
    rw [be, be, Op.bytesLess, be_less k m s]
    have hk := Nat.mod_mul (x := k) (a := 256 ^ s) (b := 256)
    have hm := Nat.mod_mul (x := m) (a := 256 ^ s) (b := 256)
    rw [Nat.pow_succ, hk, hm]
    have h1 : k % 256 ^ s < 256 ^ s := Nat.mod_lt _ (Nat.pow_pos (by decide))
    have h2 : m % 256 ^ s < 256 ^ s := Nat.mod_lt _ (Nat.pow_pos (by decide))
    have e1 := bt_nat k s
    have e2 := bt_nat m s
    have l1 : (bt (k : Int) s < bt (m : Int) s) ↔ k / 256 ^ s % 256 < m / 256 ^ s % 256 := by rw [UInt8.lt_iff_toNat_lt, e1, e2]
    have l2 : (bt (k : Int) s == bt (m : Int) s) = decide (k / 256 ^ s % 256 = m / 256 ^ s % 256) := by
      rw [Bool.eq_iff_iff, beq_iff_eq, decide_eq_true_iff, ← UInt8.toNat_inj, e1, e2]
    rw [l2]
    generalize k / 256 ^ s % 256 = p at l1 l2 ⊢
    generalize m / 256 ^ s % 256 = q at l1 l2 ⊢
    generalize k % 256 ^ s = x at h1 ⊢
    generalize m % 256 ^ s = y at h2 ⊢
    generalize hM : 256 ^ s = M at h1 h2 ⊢
    rcases Nat.lt_trichotomy p q with h | h | h
    · have h3 : M * p + M ≤ M * q := by rw [← Nat.mul_succ]; exact Nat.mul_le_mul_left _ h
      have h4 : x + M * p < y + M * q := by omega
      simp [l1, h, h4]
    · subst h
      simp [l1]
    · have h3 : M * q + M ≤ M * p := by rw [← Nat.mul_succ]; exact Nat.mul_le_mul_left _ h
      have h4 : ¬ x + M * p < y + M * q := by omega
      have h5 : ¬ p < q := by omega
      have h6 : ¬ p = q := by omega
      simp [l1, h4, h5, h6]
theorem be8_less (a b : Int) (ha : 0 ≤ a) (hb : 0 ≤ b) (ha2 : a < 9223372036854775808) (hb2 : b < 9223372036854775808) : Op.bytesLess (be 8 a) (be 8 b) = decide (a < b) := by
  obtain ⟨k, rfl⟩ : ∃ k : Nat, a = k := ⟨a.toNat, by omega⟩
  obtain ⟨m, rfl⟩ : ∃ m : Nat, b = m := ⟨b.toNat, by omega⟩
  rw [be_less]
  have e : (256 : Nat) ^ 8 = 18446744073709551616 := by decide
  rw [e, Nat.mod_eq_of_lt (by omega), Nat.mod_eq_of_lt (by omega)]
  simp
theorem take_drop_app (x z : List UInt8) (k s : Nat) (h : k + s ≤ x.length) : ((x ++ z).drop k).take s = (x.drop k).take s := by
  rw [List.drop_append_of_le_length (by omega), List.take_append_of_le_length (by simp; omega)]
theorem getR_app {x z : List UInt8} {a : Int} {s : Nat} (h : (getR x a s).2.2 = 0) : getR (x ++ z) a s = getR x a s := by
  rcases getR_cases x a s with ⟨_, h1⟩ | ⟨_, h1⟩ | ⟨k, rfl, hk, h1⟩
  · rw [h1] at h; cases h
  · rw [h1] at h; cases h
  · rw [h1, getR, if_neg (by rw [List.length_append]; omega), if_neg (by rw [List.length_append]; omega)]
    rw [show ((k : Int)).toNat = k by omega, take_drop_app x z k s hk]
theorem sizeR_app {x z : List UInt8} {a : Int} {m : Nat} (h : (sizeR x a m).2.2 = 0) : sizeR (x ++ z) a m = sizeR x a m := by
  unfold sizeR at *
  have h0 : (getR x a 4).2.2 = 0 := by
    unfold sizeOf' at h
    split at h
    · cases h
    · exact h
  rw [getR_app h0]
theorem bytesR_app {x z : List UInt8} {a : Int} (h : (bytesR x a).2.2 = 0) : bytesR (x ++ z) a = bytesR x a := by
  rcases bytesR_cases x a with ⟨e, he, h1⟩ | ⟨k, n, rfl, hn, hn2, hk, hz, h1⟩
  · rw [h1] at h; rcases he with rfl | rfl | rfl <;> cases h
  · rw [h1, bytesR, sizeR_app (by rw [hz]), hz, if_pos rfl, if_neg (by rw [List.length_append]; dsimp only; omega)]
    rw [show ((k : Int) + 4).toNat = k + 4 by omega, show ((n : Int)).toNat = n by omega, take_drop_app x z (k + 4) n hk]
theorem preRow_ok_of {acc : List (List UInt8)} {r : List (List UInt8) × Int × Int} (h : (preRow acc r).2.2 = 0) : r.2.2 = 0 := by
  unfold preRow at h
  split at h
  · assumption
  · exact h
theorem rowGo_app {x z : List UInt8} : ∀ (n : Nat) (p : Int), (rowGo x n p).2.2 = 0 → rowGo (x ++ z) n p = rowGo x n p
  | 0, _, _ => rfl
  | n + 1, p, h => by
    rw [rowGo] at h ⊢
    rw [rowGo]
    by_cases h0 : (bytesR x p).2.2 = 0
    · rw [if_pos h0] at h ⊢
      rw [bytesR_app h0, if_pos h0, rowGo_app n _ (preRow_ok_of h)]
    · rw [if_neg h0] at h
      exact absurd h h0
theorem rowR_app {x z : List UInt8} {a : Int} (h : (rowR x a).2.2 = 0) : rowR (x ++ z) a = rowR x a := by
  unfold rowR at *
  by_cases h0 : (sizeR x a 1024).2.2 = 0
  · rw [if_pos h0] at h ⊢
    rw [sizeR_app h0, if_pos h0, rowGo_app _ _ h]
  · rw [if_neg h0] at h
    exact absurd h h0
end Go.Cov
