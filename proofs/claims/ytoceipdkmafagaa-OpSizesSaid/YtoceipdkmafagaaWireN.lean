import Derived.Test.YtoceipdkmafagaaWireHead
namespace Go.Proofs.Ytoceipdkmafagaa
open Go.RowKit Go.Cov
theorem putbytes_any {A : Option Addr} {c : Nat} {l : List UInt8} {w : World} (h : Rd w A (l.map byt)) :
    Calls Try.prog 52 #[.slice A l.length c] w fun e w' => ∃ v, e = .returned (.tuple #[v, .int .i64 (putBytesR l).2]) ∧ w'.ownsRow w.heap.size 5 1 v (putBytesR l).1.length ((putBytesR l).1.map byt) ∧ Below w.heap.size w w' := by
  by_cases hl : l.length ≤ 65536
  · rw [putBytesR, if_pos hl]
    exact putbytes_ok h hl
  · rw [putBytesR, if_neg hl]
    refine (putbytes_no (by omega)).mono ?_
    rintro e w' ⟨rfl, rfl⟩
    exact ⟨_, rfl, World.ownsRow_nil _ _ _ _, Below.refl _ _⟩
theorem rputbytes_any {A : Option Addr} {c : Nat} {l : List UInt8} {w : World} (h : Rd w A (l.map byt)) :
    Calls Try.prog 55 #[.slice A l.length c] w fun e w' => ∃ v, e = .returned (.tuple #[v, .int .i64 (putBytesR l).2]) ∧ w'.ownsRow w.heap.size 5 1 v (putBytesR l).1.length ((putBytesR l).1.map byt) ∧ Below w.heap.size w w' := by
  by_cases hl : l.length ≤ 65536
  · rw [putBytesR, if_pos hl]
    exact rputbytes_ok h hl
  · rw [putBytesR, if_neg hl]
    refine (rputbytes_no (by omega)).mono ?_
    rintro e w' ⟨rfl, rfl⟩
    exact ⟨_, rfl, World.ownsRow_nil _ _ _ _, Below.refl _ _⟩
/-! the same, with the length by another name -/
theorem num_n {A : Option Addr} {c : Nat} {l : List UInt8} {w : World} (n : Nat) (hn : l.length = n) (h : Rd w A (l.map byt)) (hc : n ≤ c) (hl : n ≤ 140737488351236) (a : Int) :
    Calls Try.prog 35 #[.slice A n c, .int .i64 a] w fun e w' => e = .returned (.tuple #[.int .i64 (getR l a 8).1, .int .i64 (getR l a 8).2.1, .int .i64 (getR l a 8).2.2]) ∧ w = w' := by
  subst hn; exact num_any h hc hl a
theorem bool_n {A : Option Addr} {c : Nat} {l : List UInt8} {w : World} (n : Nat) (hn : l.length = n) (h : Rd w A (l.map byt)) (hc : n ≤ c) (hl : n ≤ 140737488351236) (a : Int) :
    Calls Try.prog 48 #[.slice A n c, .int .i64 a] w fun e w' => e = .returned (.tuple #[.bool (boolR l a).1, .int .i64 (boolR l a).2.1, .int .i64 (boolR l a).2.2]) ∧ w = w' := by
  subst hn; exact bool_any h hc hl a
theorem bytes_n {A : Option Addr} {c : Nat} {l : List UInt8} {w : World} (n : Nat) (hn : l.length = n) (h : Rd w A (l.map byt)) (hc : n ≤ c) (hl : n ≤ 140737488351236) (a : Int) :
    Calls Try.prog 37 #[.slice A n c, .int .i64 a] w fun e w' => ∃ v, e = .returned (.tuple #[v, .int .i64 (bytesR l a).2.1, .int .i64 (bytesR l a).2.2]) ∧ w'.ownsRow w.heap.size 5 1 v (bytesR l a).1.length ((bytesR l a).1.map byt) ∧ Below w.heap.size w w' := by
  subst hn; exact bytes_any h hc hl a
end Go.Proofs.Ytoceipdkmafagaa
