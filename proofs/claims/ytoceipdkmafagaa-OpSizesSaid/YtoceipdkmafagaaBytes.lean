import Derived.Test.YtoceipdkmafagaaBase
namespace Go.Cov
/-- byte number i of a number, the lowest is number 0 -/
def bt (n : Int) (i : Nat) : UInt8 := UInt8.ofNat (n / 2 ^ (8 * i) % 256).toNat
theorem bt_int (n : Int) (i : Nat) : ((bt n i).toNat : Int) = n / 2 ^ (8 * i) % 256 := by
  unfold bt
  have h0 : 0 ≤ n / 2 ^ (8 * i) % 256 := Int.emod_nonneg _ (by decide)
  have h1 : n / 2 ^ (8 * i) % 256 < 256 := Int.emod_lt_of_pos _ (by decide)
  generalize n / 2 ^ (8 * i) % 256 = m at h0 h1
  have : (UInt8.ofNat m.toNat).toNat = m.toNat % 256 := by simp
  rw [this]
  omega
/-- so many bytes of a number, the highest first -/
def be : Nat → Int → List UInt8
  | 0, _ => []
  | s + 1, n => bt n s :: be s n
theorem be_length : ∀ (s : Nat) (n : Int), (be s n).length = s
  | 0, _ => rfl
  | s + 1, n => by rw [be, List.length_cons, be_length s n]
theorem be_at : ∀ (s : Nat) (n : Int) (j : Nat), j < s → (be s n)[s - 1 - j]? = some (bt n j)
  | 0, _, _, h => by omega
  | s + 1, n, j, h => by
    by_cases hj : j = s
    · subst hj
      rw [show j + 1 - 1 - j = 0 by omega, be]; rfl
    · rw [show s + 1 - 1 - j = (s - 1 - j) + 1 by omega, be, List.getElem?_cons_succ]
      exact be_at s n j (by omega)
/-- the number that bytes make -/
def nat (l : List UInt8) : Nat := l.foldl (fun a c => a * 256 + c.toNat) 0
theorem nat_snoc (l : List UInt8) (c : UInt8) : nat (l ++ [c]) = nat l * 256 + c.toNat := by simp [nat]
end Go.Cov
