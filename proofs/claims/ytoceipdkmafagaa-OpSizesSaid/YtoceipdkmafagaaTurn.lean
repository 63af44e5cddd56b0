import Derived.Deep.RegionHeld3
import Derived.Below
import Derived.WalkKit
/-! In a region whose order is open: behind a call that made memory the condition on the world may be strengthened, so that what reads the new memory is taken first. Over any program. -/
namespace Go.Cov
open Go.RowKit
theorem below_step {a b c : World} (h : Below a.heap.size a b) (k : Below b.heap.size b c) : Below a.heap.size a c := h.trans (k.mono h.size)
section
variable {P : Program} {ops : Array Oper} {Q : Exit → Act → World → Prop} {md : Region.Mode} {S S' : World → Prop}
theorem wpAnyH_weak (hS : ∀ w, S' w → S w) : ∀ (fuel : Nat) (listed : Array Bool) (a : Act) (w : World), wpAnyH P md ops Q S' fuel listed a w → wpAnyH P md ops Q S fuel listed a w
  | 0, _, _, _, h => h
  | fuel + 1, _, _, _, h => ⟨h.1, fun i hi => wpOp_mono (fun a' w' h' => ⟨hS _ h'.1, wpAnyH_weak hS fuel _ a' w' h'.2⟩) (h.2 i hi)⟩
theorem wpAnyH_turn {fuel : Nat} {listed : Array Bool} {a : Act} {w : World} (hS : S w) (h : S w ∧ Below w.heap.size w w → wpAnyH P md ops Q (fun W => S W ∧ Below w.heap.size w W) fuel listed a w) : wpAnyH P md ops Q S fuel listed a w :=
  wpAnyH_weak (fun _ h => h.1) _ _ _ _ (h ⟨hS, Below.refl _ _⟩)
end
theorem newvar_K {K : Act → World → Prop} {a : Act} {W : World} {cs : Array Value} {t : TypeId}
    (h : ∀ wx, Below W.heap.size W wx → (∀ i v, cs[i]? = some v → wx.cell? ⟨W.heap.size, i, none⟩ = some v) → (∀ i, wx.frozen? ⟨W.heap.size, i, none⟩ = false) → W.heap.size < wx.heap.size → K a wx) : K a (W.alloc (.cells cs t)) := by
  refine h _ ((Below.refl _ _).alloc (Nat.le_refl _) _) (fun i v hv => ?_) (fun i => World.frozen?_alloc_new (w := W) cs t i) (by simp)
  rw [cell_of_row (W.alloc (.cells cs t)) W.heap.size i cs t (0, 0) (heap_alloc_new W _)]
  exact hv
theorem newvar_Kd {K : Act → World → Prop} {a : Act} {W : World} {cs : Array Value} {t : TypeId}
    (h : ∀ wx, Below W.drew.heap.size W.drew wx → (∀ i v, cs[i]? = some v → wx.cell? ⟨W.heap.size, i, none⟩ = some v) → (∀ i, wx.frozen? ⟨W.heap.size, i, none⟩ = false) → W.heap.size < wx.heap.size → K a wx) : K a (W.alloc (.cells cs t)).drew := by
  have h0 := (Below.refl W.heap.size W).alloc (Nat.le_refl _) (.cells cs t)
  refine h _ ⟨h0.os, h0.tape, h0.output, h0.size, h0.block⟩ (fun i v hv => ?_) (fun i => World.frozen?_alloc_new (w := W) cs t i) (by simp)
  show (W.alloc (.cells cs t)).cell? _ = _
  rw [cell_of_row (W.alloc (.cells cs t)) W.heap.size i cs t (0, 0) (heap_alloc_new W _)]
  exact hv
theorem set3_cells {w : World} {b : Nat} {x0 x1 x2 : Value} (h0 : w.cell? ⟨b, 0, none⟩ = some x0) (h1 : w.cell? ⟨b, 1, none⟩ = some x1) (h2 : w.cell? ⟨b, 2, none⟩ = some x2) (y0 y1 y2 : Value) :
    (((w.setCell ⟨b, 0, none⟩ y0).setCell ⟨b, 1, none⟩ y1).setCell ⟨b, 2, none⟩ y2).cell? ⟨b, 0, none⟩ = some y0 ∧ (((w.setCell ⟨b, 0, none⟩ y0).setCell ⟨b, 1, none⟩ y1).setCell ⟨b, 2, none⟩ y2).cell? ⟨b, 1, none⟩ = some y1 ∧ (((w.setCell ⟨b, 0, none⟩ y0).setCell ⟨b, 1, none⟩ y1).setCell ⟨b, 2, none⟩ y2).cell? ⟨b, 2, none⟩ = some y2 := by
  refine ⟨?_, ?_, ?_⟩
  · rw [World.cell?_setCell_other _ _ _ _ (by simp), World.cell?_setCell_other _ _ _ _ (by simp)]
    exact World.cell?_setCell_same' _ _ _ (by rw [h0]; rfl)
  · rw [World.cell?_setCell_other _ _ _ _ (by simp)]
    exact World.cell?_setCell_same' _ _ _ (by rw [World.cell?_setCell_other _ _ _ _ (by simp), h1]; rfl)
  · exact World.cell?_setCell_same' _ _ _ (by rw [World.cell?_setCell_other _ _ _ _ (by simp), World.cell?_setCell_other _ _ _ _ (by simp), h2]; rfl)
end Go.Cov
