import Derived.Test.YtoceipdkmafagaaBytes
namespace Go.Cov
open Go.RowKit
/-- the int64 that bytes make, the highest first -/
def gv (l : List UInt8) : Int := l.foldl (fun v c => wrap64 (v * 256 + c.toNat)) 0
theorem gv_snoc (l : List UInt8) (c : UInt8) : gv (l ++ [c]) = wrap64 (gv l * 256 + c.toNat) := by simp [gv]
theorem gv_step (l : List UInt8) (k : Nat) (h : k < l.length) : gv (l.take (k + 1)) = wrap64 (gv (l.take k) * 256 + l[k].toNat) := by
  rw [List.take_succ_eq_append_getElem h, gv_snoc]
theorem wrap_is (n : Int) : IntKind.i64.wrap n = wrap64 n := by
  simp only [wrap64, IntKind.wrap, IntKind.signed, IntKind.bits]
  simp
  omega
theorem or_step (v : Int) (x : UInt8) : bits .or .i64 (wrap64 (v * 256)) (wrap64 (x.toNat : Int)) = wrap64 (v * 256 + x.toNat) := by
  show IntKind.i64.wrap (((BitVec.ofInt 64 (wrap64 (v * 256)) ||| BitVec.ofInt 64 (wrap64 (x.toNat : Int))).toNat : Nat) : Int) = _
  have hx := x.toNat_lt
  rw [BitVec.toNat_or, BitVec.toNat_ofInt, BitVec.toNat_ofInt, wrap_is]
  obtain ⟨q, hq⟩ : ∃ q : Nat, (wrap64 (v * 256) % ((2 ^ 64 : Nat) : Int)).toNat = 2 ^ 8 * q := by
    refine ⟨(v % 72057594037927936).toNat, ?_⟩
    simp only [wrap64]
    omega
  have hb : (wrap64 (x.toNat : Int) % ((2 ^ 64 : Nat) : Int)).toNat = x.toNat := by
    simp only [wrap64]
    omega
  have hv : (2 ^ 8 * q : Nat) = (v * 256 % 18446744073709551616 : Int) := by
    rw [← hq]; simp only [wrap64]; omega
  rw [hq, hb, ← Nat.two_pow_add_eq_or_of_lt hx]
  simp only [wrap64]
  omega
theorem gv_nat (l : List UInt8) : gv l = wrap64 (nat l) := by
  suffices h : ∀ (l : List UInt8) (v : Int) (a : Nat), v = wrap64 a → l.foldl (fun v c => wrap64 (v * 256 + c.toNat)) v = wrap64 ((l.foldl (fun a c => a * 256 + c.toNat) a : Nat) : Int) from h l 0 0 (by simp [wrap64])
  intro l
  induction l with
  | nil => intro v a h; exact h
  | cons c l ih =>
    intro v a h
    simp only [List.foldl_cons]
    apply ih
    rw [h]
    simp only [wrap64]
    omega
theorem nat_lt (l : List UInt8) : nat l < 256 ^ l.length := by
  suffices h : ∀ (l : List UInt8) (a : Nat) (s : Nat), a < 256 ^ s → l.foldl (fun a c => a * 256 + c.toNat) a < 256 ^ (s + l.length) from by
    have := h l 0 0 (by simp); simpa [nat] using this
  intro l
  induction l with
  | nil => intro a s h; simpa using h
  | cons c l ih =>
    intro a s h
    simp only [List.foldl_cons, List.length_cons]
    have := ih (a * 256 + c.toNat) (s + 1) (by
      have hc := c.toNat_lt
      rw [Nat.pow_succ]
      omega)
    rw [show s + 1 + l.length = s + (l.length + 1) by omega] at this
    exact this
end Go.Cov
