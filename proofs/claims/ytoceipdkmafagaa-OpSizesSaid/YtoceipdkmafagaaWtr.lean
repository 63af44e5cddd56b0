/-
  Lemmas of this claim's own: a cell that holds bytes which grow. Over any program.
-/
import Derived.Test.YtoceipdkmafagaaCli
import Derived.Test.YtoceipdkmafagaaEls
namespace Go.Cov
open Go.RowKit
/-- a cell that holds a slice of bytes that is its writer's own -/
structure Wt (e : TypeId) (w : World) (wb : Nat) (v : Value) (l : List UInt8) : Prop where
  lt : wb < w.heap.size
  cell : w.cell? ⟨wb, 0, none⟩ = some v
  froz : w.frozen? ⟨wb, 0, none⟩ = false
  own : w.ownsRow (wb + 1) e 1 v l.length (l.map byt)
/-- only the cell's block, its slice's own block and new ones have turned -/
structure Tw (wb : Nat) (v : Value) (w : World) (v' : Value) (w' : World) : Prop where
  os : w'.os = w.os
  tape : w'.tape = w.tape
  output : w'.output = w.output
  size : w.heap.size ≤ w'.heap.size
  own : v'.ownBlock = v.ownBlock ∨ ∃ k, v'.ownBlock = some k ∧ w.heap.size ≤ k
  block : ∀ k, k < w.heap.size → k ≠ wb → v.ownBlock ≠ some k → w'.heap[k]? = w.heap[k]?
section
variable {e : TypeId} {w w1 w2 : World} {wb : Nat} {v v1 v2 : Value} {l m : List UInt8}
theorem Tw.refl (wb : Nat) (v : Value) (w : World) : Tw wb v w v w := ⟨rfl, rfl, rfl, Nat.le_refl _, .inl rfl, fun _ _ _ _ => rfl⟩
theorem Tw.trans (h : Tw wb v w v1 w1) (g : Tw wb v1 w1 v2 w2) : Tw wb v w v2 w2 := by
  refine ⟨g.os.trans h.os, g.tape.trans h.tape, g.output.trans h.output, Nat.le_trans h.size g.size, ?_, fun k hk h1 h2 => ?_⟩
  · rcases g.own with g1 | ⟨k, g1, g2⟩
    · rcases h.own with h1 | ⟨k, h1, h2⟩
      · exact .inl (g1.trans h1)
      · exact .inr ⟨k, g1.trans h1, h2⟩
    · exact .inr ⟨k, g1, Nat.le_trans h.size g2⟩
  · have h3 : v1.ownBlock ≠ some k := by
      intro he
      rcases h.own with h4 | ⟨j, h4, h5⟩
      · exact h2 (h4.symm.trans he)
      · rw [h4] at he; injection he with he; omega
    exact (g.block k (Nat.lt_of_lt_of_le hk h.size) h1 h3).trans (h.block k hk h1 h2)
theorem Tw.of_below (h : Below w.heap.size w w1) : Tw wb v w v w1 := ⟨h.os, h.tape, h.output, h.size, .inl rfl, fun k hk _ _ => h.block k hk⟩
theorem Tw.below {n : Nat} (h : Tw wb v w v1 w1) (hw : Wt e w wb v l) (hn : n ≤ wb) : Below n w w1 :=
  ⟨h.os, h.tape, h.output, h.size, fun k hk => h.block k (by have := hw.lt; omega) (by omega) (fun he => by have := (own_lt hw.own he).1; omega)⟩
theorem Wt.on (h : Wt e w wb v l) (hb : Below w.heap.size w w1) : Wt e w1 wb v l := ⟨Nat.lt_of_lt_of_le h.lt hb.size, cell_on hb h.cell, froz_on hb h.lt h.froz, own_below h.own hb⟩
theorem own_heap' {base n size : Nat} {xs : List Value} (h : w.ownsRow base e size v n xs) (hk : ∀ k, v.ownBlock = some k → w1.heap[k]? = w.heap[k]?) : w1.ownsRow base e size v n xs := by
  refine ⟨h.1, ?_⟩
  rcases h.2 with h2 | ⟨g, cap, cur, hv, hg, hh, r⟩
  · exact .inl h2
  · exact .inr ⟨g, cap, cur, hv, hg, (hk g (by rw [hv]; rfl)).trans hh, r⟩
theorem heap_set' {p : Addr} {x : Value} {k : Nat} (h : k ≠ p.block) : (w.setCell p x).heap[k]? = w.heap[k]? := by
  simp only [World.setCell, Array.getElem?_modify]
  rw [if_neg (Ne.symm h)]
/-- behind an append: the slice is stored -/
theorem Wt.app (h : Wt e w wb v l) (hg : w.grownBy w1 v.ownBlock) (hat : v1.ownBlock = v.ownBlock ∨ v1.ownBlock = some w.heap.size) (ho : w1.ownsRow (wb + 1) e 1 v1 (l.length + m.length) (l.map byt ++ m.map byt)) :
    Wt e (w1.setCell ⟨wb, 0, none⟩ v1) wb v1 (l ++ m) ∧ Tw wb v w v1 (w1.setCell ⟨wb, 0, none⟩ v1) := by
  have hne : some wb ≠ v.ownBlock := fun he => by have := (own_lt h.own he.symm).1; omega
  have hbl : w1.heap[wb]? = w.heap[wb]? := hg.block wb h.lt hne
  have hc1 : w1.cell? ⟨wb, 0, none⟩ = some v := (World.cell?_of_block (a := ⟨wb, 0, none⟩) hbl).trans h.cell
  have hf1 : w1.frozen? ⟨wb, 0, none⟩ = false := (World.frozen?_of_block (a := ⟨wb, 0, none⟩) hbl).trans h.froz
  refine ⟨⟨by rw [World.size_setCell]; exact Nat.lt_of_lt_of_le h.lt hg.size, World.cell?_setCell_same' _ _ _ (by rw [hc1]; rfl), by rw [World.frozen?_setCell]; exact hf1, ?_⟩, ?_⟩
  · rw [List.length_append, List.map_append]
    refine own_heap' ho fun k hk => heap_set' ?_
    have := (own_lt ho hk).1
    show k ≠ wb
    omega
  · refine ⟨hg.os, hg.tape, hg.output, by rw [World.size_setCell]; exact hg.size, ?_, fun k hk h1 h2 => ?_⟩
    · rcases hat with h4 | h4
      · exact .inl h4
      · exact .inr ⟨_, h4, Nat.le_refl _⟩
    · rw [heap_set' (show k ≠ (⟨wb, 0, none⟩ : Addr).block from h1)]
      exact hg.block k hk (fun he => h2 he.symm)
theorem Wt.mid (h : Wt e w wb v l) (hg : w.grownBy w1 v.ownBlock) : w1.cell? ⟨wb, 0, none⟩ = some v ∧ w1.frozen? ⟨wb, 0, none⟩ = false := by
  have hne : some wb ≠ v.ownBlock := fun he => by have := (own_lt h.own he.symm).1; omega
  have hbl : w1.heap[wb]? = w.heap[wb]? := hg.block wb h.lt hne
  exact ⟨(World.cell?_of_block (a := ⟨wb, 0, none⟩) hbl).trans h.cell, (World.frozen?_of_block (a := ⟨wb, 0, none⟩) hbl).trans h.froz⟩
/-- a place apart -/
def ApaW (wb : Nat) (v : Value) (A : Option Addr) : Prop := ∀ ad, A = some ad → ad.block ≠ wb ∧ v.ownBlock ≠ some ad.block
theorem Rd.tw {A : Option Addr} {xs : List Value} (h : Rd w A xs) (hA : ApaW wb v A) (hT : Tw wb v w v1 w1) : Rd w1 A xs := fun j u hj => by
  obtain ⟨ad, hA', hc⟩ := h j u hj
  have h1 := hA ad hA'
  refine ⟨ad, hA', ?_⟩
  have hl := cell_lt hc
  rw [World.cell?_of_block (w := w) (hT.block _ hl (by rw [block_add]; exact h1.1) (by rw [block_add]; exact h1.2))]
  exact hc
theorem Tw.cell {p : Addr} {u : Value} (hT : Tw wb v w v1 w1) (hA : ApaW wb v (some p)) (hc : w.cell? p = some u) : w1.cell? p = some u := by
  rw [World.cell?_of_block (w := w) (hT.block _ (cell_lt hc) (hA p rfl).1 (hA p rfl).2)]
  exact hc
theorem ApaW.at' {p q : Addr} (h : ApaW wb v (some p)) (hq : q.block = p.block) : ApaW wb v (some q) := fun ad ha => by
  cases ha
  rw [hq]
  exact h p rfl
/-- what lies below -/
theorem ApaW.old {A : Option Addr} (h : Wt e w wb v l) (hA : ∀ ad, A = some ad → ad.block < wb) : ApaW wb v A := fun ad ha => by
  have := hA ad ha
  exact ⟨by omega, fun he => by have := (own_lt h.own he).1; omega⟩
/-- what is new -/
theorem ApaW.new {A : Option Addr} (h : Wt e w wb v l) (hA : ∀ ad, A = some ad → w.heap.size ≤ ad.block) : ApaW wb v A := fun ad ha => by
  have h1 := hA ad ha
  have h2 := h.lt
  exact ⟨by omega, fun he => by have := (own_lt h.own he).2; omega⟩
end
end Go.Cov
