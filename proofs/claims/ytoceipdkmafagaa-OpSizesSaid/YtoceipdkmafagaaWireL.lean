import Derived.Test.YtoceipdkmafagaaWireK
namespace Go.Proofs.Ytoceipdkmafagaa
open Go.RowKit Go.Cov
theorem infoR : (Try.prog.info? 22).map (fun i => (i.zero, i.size, i.bytes)) = some (some (.slice none 0 0), 1, 24) := by kernel_rfl
/-- what holds at each round's head of 'Row' -/
def RowAt (l : List UInt8) (R : List (List UInt8) × Int × Int) (base n k : Nat) (p er : Int) (v : Value) (W : World) : Prop :=
  (er = 0 ∧ ∃ acc : List (List UInt8), acc.length = k ∧ OwnRows W base 22 v acc ∧ R = preRow acc (rowGo l (n - k) p)) ∨ (er ≠ 0 ∧ R = ([], 0, er))
end Go.Proofs.Ytoceipdkmafagaa
