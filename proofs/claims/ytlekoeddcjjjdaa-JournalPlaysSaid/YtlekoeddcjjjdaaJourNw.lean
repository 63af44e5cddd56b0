import Derived.Test.YtlekoeddcjjjdaaJourUo
import Derived.Test.YtlekoeddcjjjdaaStoreQ
/-! the ref's journal: New -/
namespace Go.Proofs.Ytlekoeddcjjjdaa
open Go.RowKit Go.Cov Go.Lib
variable {Bk : Nat → Prop}
theorem rjnew_no {w : World} {A : Option Addr} {c : Nat} {xs : List Pr} {L : PL} (h : St w A c xs L) (hz : xs.length ≤ 2932031007403) (hr : rightP L = false) :
    Calls Try.prog 10 #[.slice A xs.length c] w fun e w' => e = .returned (.pointer none) ∧ Below w.heap.size w w' := by
  have K := hid (show Calls Try.prog 26 #[.slice A xs.length c] w fun e w' => e = .returned (.bool (rightP L)) ∧ Below w.heap.size w w' from by rw [← h.2.2]; exact rright_pairs h.1 hz)
  rw [hr] at K
  clear h hr
  go_enter Try.func10, Try.ntmps10
  go_wp2_with fail
  refine K.out.mono ?_
  rintro e w2 ⟨rfl, hb⟩
  go_wp2_with fail
  go_ret
  exact ⟨rfl, hb⟩
end Go.Proofs.Ytlekoeddcjjjdaa
