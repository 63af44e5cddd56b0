/-
  Lemmas of this claim's own: rows of cells that may be written, and worlds in which two blocks have turned. Over any program.
-/
import Derived.Test.YtoceipdkmafagaaEntries
import Derived.Deep.DeepCutAuto
import Derived.Deep.MidRow
namespace Go.Cov
open Go.RowKit
/-- cells that stand in one block, that may be written -/
def Row (w : World) (b : Nat) (vs : List Value) : Prop := b < w.heap.size ∧ ∀ i v, vs[i]? = some v → w.cell? ⟨b, i, none⟩ = some v ∧ w.frozen? ⟨b, i, none⟩ = false
theorem Row.new (w : World) (vs : List Value) (t : TypeId) : Row (w.alloc (.cells vs.toArray t)) w.heap.size vs :=
  ⟨by simp, fun i v hi => ⟨box_cell w vs.toArray t i v (by simpa using hi), World.frozen?_alloc_new (w := w) _ t i⟩⟩
theorem Row.keep {w w' : World} {b : Nat} {vs : List Value} (h : Row w b vs) (hk : w'.heap[b]? = w.heap[b]?) (hs : w.heap.size ≤ w'.heap.size) : Row w' b vs :=
  ⟨Nat.lt_of_lt_of_le h.1 hs, fun i v hi => ⟨(World.cell?_of_block (a := ⟨b, i, none⟩) hk).trans (h.2 i v hi).1, (World.frozen?_of_block (a := ⟨b, i, none⟩) hk).trans (h.2 i v hi).2⟩⟩
theorem Row.below {w w' : World} {b : Nat} {vs : List Value} (h : Row w b vs) (hb : Below w.heap.size w w') : Row w' b vs := h.keep (hb.block b h.1) hb.size
theorem Row.set {w : World} {b : Nat} {vs : List Value} (h : Row w b vs) (i : Nat) (hi : i < vs.length) (x : Value) : Row (w.setCell ⟨b, i, none⟩ x) b (vs.set i x) := by
  refine ⟨by simpa using h.1, fun j v hj => ⟨?_, by rw [World.frozen?_setCell]; by_cases hji : j = i; subst hji; exact (h.2 j _ (List.getElem?_eq_getElem hi)).2; exact (h.2 j v (by rw [List.getElem?_set_ne (Ne.symm hji)] at hj; exact hj)).2⟩⟩
  by_cases hji : j = i
  · subst hji
    rw [List.getElem?_set_self hi] at hj
    cases hj
    exact World.cell?_setCell_same' _ _ _ (by rw [(h.2 j _ (List.getElem?_eq_getElem hi)).1]; rfl)
  · rw [List.getElem?_set_ne (Ne.symm hji)] at hj
    rw [World.cell?_setCell_other _ _ _ _ (by intro e; injection e with _ e; exact hji e.symm)]
    exact (h.2 j v hj).1
/-- only the blocks b and c, and new ones, have turned -/
structure Gro (b c : Nat) (w w' : World) : Prop where
  os : w'.os = w.os
  tape : w'.tape = w.tape
  output : w'.output = w.output
  size : w.heap.size ≤ w'.heap.size
  block : ∀ k, k < w.heap.size → k ≠ b → k ≠ c → w'.heap[k]? = w.heap[k]?
theorem Gro.refl (b c : Nat) (w : World) : Gro b c w w := ⟨rfl, rfl, rfl, Nat.le_refl _, fun _ _ _ _ => rfl⟩
theorem Gro.trans {b c : Nat} {w w1 w2 : World} (h : Gro b c w w1) (g : Gro b c w1 w2) : Gro b c w w2 :=
  ⟨g.os.trans h.os, g.tape.trans h.tape, g.output.trans h.output, Nat.le_trans h.size g.size, fun k hk h1 h2 => (g.block k (Nat.lt_of_lt_of_le hk h.size) h1 h2).trans (h.block k hk h1 h2)⟩
theorem Gro.of_below {b c : Nat} {w w' : World} (h : Below w.heap.size w w') : Gro b c w w' := ⟨h.os, h.tape, h.output, h.size, fun k hk _ _ => h.block k hk⟩
theorem Gro.of_grown {b c : Nat} {w w' : World} (h : w.grownBy w' (some c)) : Gro b c w w' := ⟨h.os, h.tape, h.output, h.size, fun k hk _ h2 => h.block k hk (fun e => h2 (Option.some.inj e))⟩
theorem Gro.set (b c i : Nat) (w : World) (x : Value) : Gro b c w (w.setCell ⟨b, i, none⟩ x) := ⟨rfl, rfl, rfl, by simp, fun k _ h1 _ => by
  simp only [World.setCell, Array.getElem?_modify]
  rw [if_neg (Ne.symm h1)]⟩
theorem Gro.below {b c base : Nat} {w w' : World} (h : Gro b c w w') (hb : base ≤ b) (hc : base ≤ c) (hs : base ≤ w.heap.size) : Below base w w' :=
  ⟨h.os, h.tape, h.output, h.size, fun k hk => h.block k (Nat.lt_of_lt_of_le hk hs) (by omega) (by omega)⟩
theorem Gro.rd {b c : Nat} {w w' : World} (h : Gro b c w w') {A : Option Addr} {xs : List Value} (hr : Rd w A xs) (hA : ∀ ad, A = some ad → ad.block ≠ b ∧ ad.block ≠ c) : Rd w' A xs := fun j u hj => by
  obtain ⟨ad, hA', hc⟩ := hr j u hj
  refine ⟨ad, hA', ?_⟩
  have hl := cell_lt hc
  have h1 := hA ad hA'
  rw [World.cell?_of_block (w := w) (h.block _ hl (by rw [block_add]; exact h1.1) (by rw [block_add]; exact h1.2))]
  exact hc
theorem Row.drew {w : World} {b : Nat} {vs : List Value} (h : Row w b vs) : Row w.drew b vs := h
theorem Row.range {w : World} {b : Nat} {vs : List Value} (h : Row w b vs) : w.rangeAt b 0 vs := fun j v hv => by rw [Nat.zero_add]; exact (h.2 j v hv).1
theorem Row.part {w : World} {b : Nat} {vs : List Value} (h : Row w b vs) (o : Nat) (us : List Value) (hu : ∀ j v, us[j]? = some v → vs[o + j]? = some v) : w.rangeAt b o us := fun j v hv => (h.2 (o + j) v (hu j v hv)).1
theorem Row.there {w : World} {b : Nat} {vs : List Value} (h : Row w b vs) : w.there b 0 vs.length := fun j hj => by
  rw [Nat.zero_add]
  obtain ⟨h1, h2⟩ := h.2 j _ (List.getElem?_eq_getElem hj)
  exact ⟨by rw [h1]; rfl, h2⟩
theorem heap_setCells {b k : Nat} (hk : k ≠ b) : ∀ (vs : List Value) (o : Nat) (w : World), (w.setCells b o vs).heap[k]? = w.heap[k]?
  | [], _, _ => rfl
  | v :: vs, o, w => by
    rw [World.setCells, heap_setCells hk vs]
    simp only [World.setCell, Array.getElem?_modify]
    rw [if_neg (Ne.symm hk)]
theorem setCells_rest (b : Nat) : ∀ (vs : List Value) (o : Nat) (w : World), (w.setCells b o vs).os = w.os ∧ (w.setCells b o vs).tape = w.tape ∧ (w.setCells b o vs).output = w.output ∧ (w.setCells b o vs).heap.size = w.heap.size
  | [], _, _ => ⟨rfl, rfl, rfl, rfl⟩
  | v :: vs, o, w => by
    obtain ⟨h1, h2, h3, h4⟩ := setCells_rest b vs (o + 1) (w.setCell ⟨b, o, none⟩ v)
    exact ⟨h1, h2, h3, h4.trans (by simp)⟩
theorem Row.setCells {w : World} {b : Nat} {vs us : List Value} (h : Row w b vs) (hl : us.length = vs.length) : Row (w.setCells b 0 us) b us := by
  have ht := h.there
  rw [← hl] at ht
  refine ⟨by rw [(setCells_rest b us 0 w).2.2.2]; exact h.1, fun i v hi => ⟨?_, ?_⟩⟩
  · have := World.rangeAt_setCells_same w b 0 us ht i v hi
    rwa [Nat.zero_add] at this
  · have hlt : i < us.length := (List.getElem?_eq_some_iff.1 hi).1
    have := (ht i hlt).2
    rw [Nat.zero_add] at this
    rw [World.frozen?_setCells]; exact this
theorem Gro.setCells (b c : Nat) (w : World) (us : List Value) : Gro b c w (w.setCells b 0 us) := by
  obtain ⟨h1, h2, h3, h4⟩ := setCells_rest b us 0 w
  exact ⟨h1, h2, h3, Nat.le_of_eq h4.symm, fun k _ hb _ => heap_setCells hb us 0 w⟩
theorem below_setCells {n b : Nat} {w W : World} (h : Below n w W) (hb : n ≤ b) (us : List Value) : Below n w (W.setCells b 0 us) := by
  obtain ⟨h1, h2, h3, h4⟩ := setCells_rest b us 0 W
  exact ⟨h1.trans h.os, h2.trans h.tape, h3.trans h.output, by rw [h4]; exact h.size, fun k hk => (heap_setCells (by omega) us 0 W).trans (h.block k hk)⟩
theorem oper_store_mid {P : Program} {w : World} {ops : Array Oper} {o : Oper} {a : Act} {K : Act → World → Prop} {Q : Exit → Act → World → Prop} (hw : Region.wanted o (yielded ops a.tmps) = true) (ty : TypeId) (x y : Operand) (ho : o.op = .store ty x y)
    (b : Nat) (us vs : List Value) (hx : a.eval x = .pointer (some ⟨b, 0, none⟩)) (hy : a.eval y = .agg us.toArray) (hR : Row w b vs) (hl : us.length = vs.length)
    (hi : (P.info? ty).map (·.size) = some us.length) (h1 : ∀ u ∈ us, u.oneCell' = true) (h : K (a.put o.dst undef) (w.setCells b 0 us)) :
    if Region.wanted o (yielded ops a.tmps) = true then Oper.wp P o a w K Q else K (a.put o.dst undef) w := by
  rw [if_pos hw]
  exact wp_store_mid ty x y ho b 0 us.toArray hx hy (by have := hR.there; rw [← hl] at this; simpa using this) (by simpa using hi) (all_oneCell_toArray h1) (by simpa using h)
theorem results_cell1 {P : Program} {fn : Func} {k : Nat} {t : TypeId} (hr : fn.results = #[.cell k t]) {ts : Array Value} {b : Nat} (ht : ts.getD k undef = .pointer (some ⟨b, 0, none⟩)) {w : World} {cs : List Value} (R : Row w b cs) {d : TypeDesc} (hu : P.underlying t = some d) (hd : d.isRow = true) (hi : (P.info? t).map (·.size) = some cs.length) :
    (results fn ts).run P w = .ok (.agg cs.toArray) w := by
  have hl := run_loadVar_mid (P := P) w b 0 t cs d R.range hu hd hi
  have ht' : ts[k]?.getD undef = .pointer (some ⟨b, 0, none⟩) := by rw [← ht]; simp
  simp [results, hr, ht', asAddr, hl]
/-- a row made and written in a world that grew from another one -/
structure RowB (w0 w : World) (b : Nat) (vs : List Value) : Prop where
  row : Row w b vs
  below : Below w0.heap.size w0 w
  at' : w0.heap.size ≤ b
theorem RowB.new (w : World) (vs : List Value) (t : TypeId) : RowB w (w.alloc (.cells vs.toArray t)) w.heap.size vs := ⟨Row.new w vs t, below_alloc w _, Nat.le_refl _⟩
theorem RowB.set {w0 w : World} {b : Nat} {vs : List Value} (h : RowB w0 w b vs) (i : Nat) (hi : i < vs.length) (x : Value) : RowB w0 (w.setCell ⟨b, i, none⟩ x) b (vs.set i x) :=
  ⟨h.row.set i hi x, h.below.setCell (p := ⟨b, i, none⟩) h.at' x, h.at'⟩
end Go.Cov
