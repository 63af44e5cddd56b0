import Derived.Deep.RegionHeld3
import Derived.Below
/-! In a region whose order is open: behind a call that made memory the condition on the world may be strengthened, so that what reads the new memory is taken first. Over any program. -/
namespace Go.Cov
open Go.RowKit
theorem below_step {a b c : World} (h : Below a.heap.size a b) (k : Below b.heap.size b c) : Below a.heap.size a c := h.trans (k.mono h.size)
section
variable {P : Program} {ops : Array Oper} {Q : Exit → Act → World → Prop} {md : Region.Mode} {S S' : World → Prop}
theorem wpAnyH_weak (hS : ∀ w, S' w → S w) : ∀ (fuel : Nat) (listed : Array Bool) (a : Act) (w : World), wpAnyH P md ops Q S' fuel listed a w → wpAnyH P md ops Q S fuel listed a w
  | 0, _, _, _, h => h
  | fuel + 1, _, _, _, h => ⟨h.1, fun i hi => wpOp_mono (fun a' w' h' => ⟨hS _ h'.1, wpAnyH_weak hS fuel _ a' w' h'.2⟩) (h.2 i hi)⟩
theorem wpAnyH_turn {fuel : Nat} {listed : Array Bool} {a : Act} {w : World} (hS : S w) (h : S w ∧ Below w.heap.size w w → wpAnyH P md ops Q (fun W => S W ∧ Below w.heap.size w W) fuel listed a w) : wpAnyH P md ops Q S fuel listed a w :=
  wpAnyH_weak (fun _ h => h.1) _ _ _ _ (h ⟨hS, Below.refl _ _⟩)
end
end Go.Cov
