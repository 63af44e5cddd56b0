import Derived.Test.YtahehikpbhneeaaWireHead
namespace Go.Proofs.Ytahehikpbhneeaa
open Go.RowKit Go.Cov
theorem putbytes_any {A : Option Addr} {c : Nat} {l : List UInt8} {w : World} (h : Rd w A (l.map byt)) :
    Calls Try.prog 19 #[.slice A l.length c] w fun e w' => ∃ v, e = .returned (.tuple #[v, .int .i64 (putBytesR l).2]) ∧ w'.ownsRow w.heap.size 5 1 v (putBytesR l).1.length ((putBytesR l).1.map byt) ∧ Below w.heap.size w w' := by
  by_cases hl : l.length ≤ 65536
  · rw [putBytesR, if_pos hl]
    exact putbytes_ok h hl
  · rw [putBytesR, if_neg hl]
    refine (putbytes_no (by omega)).mono ?_
    rintro e w' ⟨rfl, rfl⟩
    exact ⟨_, rfl, World.ownsRow_nil _ _ _ _, Below.refl _ _⟩
theorem rputbytes_any {A : Option Addr} {c : Nat} {l : List UInt8} {w : World} (h : Rd w A (l.map byt)) :
    Calls Try.prog 24 #[.slice A l.length c] w fun e w' => ∃ v, e = .returned (.tuple #[v, .int .i64 (putBytesR l).2]) ∧ w'.ownsRow w.heap.size 5 1 v (putBytesR l).1.length ((putBytesR l).1.map byt) ∧ Below w.heap.size w w' := by
  by_cases hl : l.length ≤ 65536
  · rw [putBytesR, if_pos hl]
    exact rputbytes_ok h hl
  · rw [putBytesR, if_neg hl]
    refine (rputbytes_no (by omega)).mono ?_
    rintro e w' ⟨rfl, rfl⟩
    exact ⟨_, rfl, World.ownsRow_nil _ _ _ _, Below.refl _ _⟩
end Go.Proofs.Ytahehikpbhneeaa
