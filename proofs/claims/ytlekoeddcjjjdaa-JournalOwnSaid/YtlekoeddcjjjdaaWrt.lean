/-
  Lemmas of this claim's own: bytes that may be written, and worlds in which only some blocks have turned. Over any program.
-/
import Derived.Test.YtlekoeddcjjjdaaPairs
import Derived.Laws.OwnMore
namespace Go.Cov
open Go.RowKit
/-- bytes that may be written -/
def Wrt (w : World) (A : Option Addr) (n : Nat) : Prop := ∀ j, j < n → ∃ ad u, A = some ad ∧ w.cell? (ad.add j) = some (.int .u8 u) ∧ w.frozen? (ad.add j) = false
theorem Wrt.keep {w w' : World} {A : Option Addr} {n : Nat} (h : Wrt w A n) (hk : ∀ ad, A = some ad → w'.heap[ad.block]? = w.heap[ad.block]?) : Wrt w' A n := fun j hj => by
  obtain ⟨ad, u, hA, hc, hf⟩ := h j hj
  have hb : w'.heap[(ad.add j).block]? = w.heap[(ad.add j).block]? := by rw [block_add]; exact hk ad hA
  exact ⟨ad, u, hA, (World.cell?_of_block hb).trans hc, (World.frozen?_of_block hb).trans hf⟩
theorem Wrt.below {w w' : World} {A : Option Addr} {n : Nat} (h : Wrt w A n) (hb : Below w.heap.size w w') : Wrt w' A n := fun j hj => by
  obtain ⟨ad, u, hA, hc, hf⟩ := h j hj
  have hl := cell_lt hc
  exact ⟨ad, u, hA, cell_on hb hc, (hb.frozen (p := ad.add j) hl).trans hf⟩
theorem Wrt.set {w : World} {A : Option Addr} {n : Nat} (h : Wrt w A n) (p : Addr) (z : Int) : Wrt (w.setCell p (.int .u8 z)) A n := fun j hj => by
  obtain ⟨ad, u, hA, hc, hf⟩ := h j hj
  by_cases hp : p = ad.add j
  · subst hp
    exact ⟨ad, z, hA, World.cell?_setCell_same' _ _ _ (by rw [hc]; rfl), by rw [World.frozen?_setCell]; exact hf⟩
  · exact ⟨ad, u, hA, (World.cell?_setCell_other _ _ _ _ hp).trans hc, by rw [World.frozen?_setCell]; exact hf⟩
theorem wrt_own {w : World} {base : Nat} {e : TypeId} {A : Option Addr} {c : Nat} {l : List UInt8} (h : w.ownsRow base e 1 (.slice A l.length c) l.length (l.map byt)) : Wrt w A l.length := fun j hj => by
  obtain ⟨ad, hA, hc⟩ := own_rd h j (byt l[j]) (by simp [hj])
  have hs := h.2
  rcases hs with ⟨hv, hn⟩ | ⟨g, cap, cur, hv, _⟩
  · omega
  · injection hv with e1 e2 e3
    subst hA
    injection e1 with e1
    subst e1
    refine ⟨_, (l[j].toNat : Int), rfl, hc, ?_⟩
    rw [add_none, Nat.zero_add]
    exact World.ownsRow.frozenAt (cap := c) h j
/-- only blocks without Bk have turned -/
structure Wr (Bk : Nat → Prop) (w w' : World) : Prop where
  os : w'.os = w.os
  tape : w'.tape = w.tape
  output : w'.output = w.output
  size : w'.heap.size = w.heap.size
  block : ∀ k, Bk k → w'.heap[k]? = w.heap[k]?
theorem Wr.refl (Bk : Nat → Prop) (w : World) : Wr Bk w w := ⟨rfl, rfl, rfl, rfl, fun _ _ => rfl⟩
theorem Wr.set {Bk : Nat → Prop} {w w' : World} (h : Wr Bk w w') {p : Addr} (hp : ¬ Bk p.block) (v : Value) : Wr Bk w (w'.setCell p v) := by
  refine ⟨h.os, h.tape, h.output, by rw [World.size_setCell]; exact h.size, fun k hk => ?_⟩
  rw [← h.block k hk]
  simp only [World.setCell, Array.getElem?_modify]
  rw [if_neg (fun e => hp (by rw [e]; exact hk))]
theorem Wr.below {Bk : Nat → Prop} {w w' : World} {n : Nat} (h : Wr Bk w w') (hk : ∀ k, k < n → Bk k) : Below n w w' := ⟨h.os, h.tape, h.output, Nat.le_of_eq h.size.symm, fun k hlt => h.block k (hk k hlt)⟩
end Go.Cov
