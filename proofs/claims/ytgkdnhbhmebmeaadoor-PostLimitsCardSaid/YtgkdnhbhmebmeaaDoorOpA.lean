import Derived.Test.YtgkdnhbhmebmeaaDoorPlain1
import Derived.Test.YtgkdnhbhmebmeaaDoorWires1
/-! op: what is a value -/
namespace Go.Proofs.YtgkdnhbhmebmeaaDoor
open Go.RowKit Go.Cov
def plainN (t n : Int) (m : Nat) : Bool := decide ((t = 1 ∨ t = 2) ∧ m = 0 ∨ t = 3 ∧ n = 0 ∧ m ≤ 256 ∨ t = 0 ∧ n = 0 ∧ m = 0)
theorem plainN_of (v : VD) : plainN v.1 v.2.1 v.2.2.length = plainV v := rfl

end Go.Proofs.YtgkdnhbhmebmeaaDoor