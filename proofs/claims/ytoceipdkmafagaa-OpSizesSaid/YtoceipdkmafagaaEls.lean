import Derived.Test.YtoceipdkmafagaaLists
/-! slices of structs whose fields are one cell each, some of them slices of bytes (over any program) -/
namespace Go.Cov
open Go.RowKit
/-- how an element lies: its cells, and the slices of bytes among them with what they read -/
structure El (α : Type) where
  sz : Nat
  cells : α → List Value
  cons : α → List (Value × List UInt8)
  len : ∀ a, (cells a).length = sz
  one : ∀ a, ∀ u ∈ cells a, u.oneCell' = true
  pos : 0 < sz
section
variable {α : Type} {T : El α} {w w' : World} {A : Option Addr} {xs ys : List α}
theorem El.flat_len (T : El α) (xs : List α) : (xs.flatMap T.cells).length = xs.length * T.sz := by
  induction xs with
  | nil => simp
  | cons x xs ih => rw [List.flatMap_cons, List.length_append, ih, T.len, List.length_cons, Nat.add_mul]; omega
theorem El.flat_one (T : El α) (xs : List α) : ∀ u ∈ xs.flatMap T.cells, u.oneCell' = true := by
  intro u hu
  obtain ⟨a, _, ha⟩ := List.mem_flatMap.1 hu
  exact T.one a u ha
theorem El.flat_at (T : El α) (xs : List α) (i j : Nat) (hi : i < xs.length) (u : Value) (hu : (T.cells xs[i])[j]? = some u) : (xs.flatMap T.cells)[i * T.sz + j]? = some u := by
  induction xs generalizing i with
  | nil => simp at hi
  | cons x xs ih =>
    rw [List.flatMap_cons]
    cases i with
    | zero =>
      have hj : j < (T.cells x).length := (List.getElem?_eq_some_iff.1 hu).1
      rw [Nat.zero_mul, Nat.zero_add, List.getElem?_append_left hj]
      exact hu
    | succ i =>
      rw [List.getElem?_append_right (by rw [T.len, Nat.add_mul]; omega), T.len]
      rw [show (i + 1) * T.sz + j - T.sz = i * T.sz + j by rw [Nat.add_mul]; omega]
      exact ih i (by simpa using hi) hu
theorem El.flat_drop (T : El α) (xs : List α) (k : Nat) : (xs.drop k).flatMap T.cells = (xs.flatMap T.cells).drop (k * T.sz) := by
  induction xs generalizing k with
  | nil => simp
  | cons x xs ih =>
    cases k with
    | zero => simp
    | succ k =>
      have e : (k + 1) * T.sz - T.sz = k * T.sz := by rw [Nat.add_mul]; omega
      conv => rhs; rw [List.flatMap_cons, List.drop_append, List.drop_of_length_le (by rw [T.len, Nat.add_mul]; omega), T.len, List.nil_append, e]
      rw [List.drop_succ_cons, ih]
theorem El.flat_take (T : El α) (xs : List α) (k : Nat) : (xs.take k).flatMap T.cells = (xs.flatMap T.cells).take (k * T.sz) := by
  induction xs generalizing k with
  | nil => simp
  | cons x xs ih =>
    cases k with
    | zero => simp
    | succ k =>
      have e : (k + 1) * T.sz - T.sz = k * T.sz := by rw [Nat.add_mul]; omega
      conv => rhs; rw [List.flatMap_cons, List.take_append, List.take_of_length_le (by rw [T.len, Nat.add_mul]; omega), T.len, e]
      rw [List.take_succ_cons, List.flatMap_cons, ih]
/-- the elements xs lie from A on -/
def Els (T : El α) (w : World) (A : Option Addr) (xs : List α) : Prop := Rd w A (xs.flatMap T.cells) ∧ ∀ a ∈ xs, ∀ p ∈ T.cons a, Sl w p.1 p.2
theorem Els.nil (T : El α) (w : World) (A : Option Addr) : Els T w A [] := ⟨by simpa using Rd.nil w A, fun a h => by simp at h⟩
theorem Els.keep (h : Els T w A xs) (hk : ∀ p u, w.cell? p = some u → w'.cell? p = some u) : Els T w' A xs := ⟨h.1.keep hk, fun a ha p hp => (h.2 a ha p hp).keep hk⟩
theorem Els.below (h : Els T w A xs) (hb : Below w.heap.size w w') : Els T w' A xs := h.keep fun _ _ hc => (hb.cell (cell_lt hc)).trans hc
theorem Els.at' (h : Els T w A xs) (i : Nat) (hi : i < xs.length) : ∃ ad, A = some ad ∧ (∀ j u, (T.cells xs[i])[j]? = some u → w.cell? ((ad.add (i * T.sz)).add j) = some u) ∧ ∀ p ∈ T.cons xs[i], Sl w p.1 p.2 := by
  have h0 : 0 < (T.cells xs[i]).length := by rw [T.len]; exact T.pos
  obtain ⟨u0, hu0⟩ : ∃ u, (T.cells xs[i])[0]? = some u := ⟨_, List.getElem?_eq_getElem h0⟩
  obtain ⟨ad, hA, _⟩ := h.1 _ _ (T.flat_at xs i 0 hi u0 hu0)
  refine ⟨ad, hA, fun j u hj => ?_, h.2 _ (List.getElem_mem hi)⟩
  obtain ⟨ad', hA', hc⟩ := h.1 _ _ (T.flat_at xs i j hi u hj)
  rw [hA] at hA'
  cases hA'
  rw [add_add']
  exact hc
theorem Els.cut (h : Els T w A xs) (k : Nat) {c : Nat} (hc : xs.length ≤ c) : Els T w (cutA A c k T.sz) (xs.drop k) := by
  refine ⟨?_, fun a ha => h.2 a (List.mem_of_mem_drop ha)⟩
  rw [El.flat_drop]
  exact h.1.cutA k T.sz (by rw [El.flat_len]; exact Nat.mul_le_mul_right _ hc)
theorem Els.take (h : Els T w A xs) (k : Nat) : Els T w A (xs.take k) := by
  refine ⟨?_, fun a ha => h.2 a (List.mem_of_mem_take ha)⟩
  rw [El.flat_take]
  exact h.1.take _
/-- a slice kept behind a write elsewhere -/
theorem Sl.grown {p : Value} {l : List UInt8} {row : Option Nat} (h : Sl w p l) (hg : w.grownBy w' row) (hne : l ≠ [] → row ≠ none → p.ownBlock ≠ row) : Sl w' p l := by
  obtain ⟨A, c, rfl, h1, h2, h3⟩ := h
  refine ⟨A, c, rfl, h1, h2, fun j u hj => ?_⟩
  obtain ⟨ad, hA, hc⟩ := h3 j u hj
  subst hA
  refine ⟨ad, rfl, hg.cell hc (fun he => ?_)⟩
  rw [block_add] at he
  refine hne (fun hl => by subst hl; simp at hj) (fun hr => by rw [hr] at he; cases he) ?_
  exact he
theorem Sl.lt {p : Value} {l : List UInt8} (h : Sl w p l) (hl : l ≠ []) {k : Nat} (hk : p.ownBlock = some k) : k < w.heap.size := by
  obtain ⟨A, c, rfl, _, _, h3⟩ := h
  cases l with
  | nil => exact absurd rfl hl
  | cons x l =>
    obtain ⟨ad, rfl, hc⟩ := h3 0 (byt x) rfl
    have := cell_lt hc
    rw [block_add] at this
    simp only [Value.ownBlock] at hk
    injection hk with hk
    omega
/-- what the cells lead to lies outside v's block -/
def Off (T : El α) (w : World) (v : Value) (xs : List α) : Prop := ∀ a ∈ xs, ∀ p ∈ T.cons a, Sl w p.1 p.2 ∧ (p.2 ≠ [] → v.ownBlock ≠ none → p.1.ownBlock ≠ v.ownBlock)
theorem Off.below {v : Value} (h : Off T w v xs) (hb : Below w.heap.size w w') : Off T w' v xs := fun a ha p hp => ⟨(h a ha p hp).1.below hb, (h a ha p hp).2⟩
/-- all that was there before v's block -/
theorem Off.old {v : Value} (h : ∀ a ∈ xs, ∀ p ∈ T.cons a, Sl w p.1 p.2) (hb : Below w.heap.size w w') (hv : ∀ k, v.ownBlock = some k → w.heap.size ≤ k) : Off T w' v xs := fun a ha p hp => by
  refine ⟨(h a ha p hp).below hb, fun hl hn he => ?_⟩
  obtain ⟨k, hk⟩ := Option.ne_none_iff_exists'.1 hn
  have h1 := hv k hk
  have h2 := (h a ha p hp).lt hl (he.trans hk)
  omega
/-- a slice of structs that the call owns -/
def OwnEls (T : El α) (w : World) (base : Nat) (e : TypeId) (v : Value) (xs : List α) : Prop := w.ownsRow base e T.sz v xs.length (xs.flatMap T.cells) ∧ Off T w v xs
theorem OwnEls.nil (T : El α) (w : World) (base : Nat) (e : TypeId) : OwnEls T w base e (.slice none 0 0) [] := ⟨by simpa using World.ownsRow_nil w base e T.sz, fun a h => by simp at h⟩
variable {base : Nat} {e : TypeId} {v : Value}
theorem OwnEls.rd (h : OwnEls T w base e v xs) : ∃ A c, v = .slice A xs.length c ∧ xs.length ≤ c ∧ c ≤ maxLen ∧ Els T w A xs := by
  obtain ⟨A, c, rfl, hc, hm, _⟩ := own_shape h.1
  exact ⟨A, c, rfl, hc, hm, own_rd h.1, fun a ha p hp => (h.2 a ha p hp).1⟩
theorem OwnEls.below (h : OwnEls T w base e v xs) (hb : Below w.heap.size w w') : OwnEls T w' base e v xs := ⟨own_below h.1 hb, h.2.below hb⟩
theorem OwnEls.mono {base' : Nat} (h : OwnEls T w base e v xs) (hb : base' ≤ base) : OwnEls T w base' e v xs := ⟨own_mono h.1 hb, h.2⟩
theorem OwnEls.lt (h : OwnEls T w base e v xs) {k : Nat} (hk : v.ownBlock = some k) : base ≤ k ∧ k < w.heap.size := own_lt h.1 hk
/-- what 'append(out, ys..)' leaves -/
theorem OwnEls.app {w1 : World} {v' : Value} (h : Off T w v xs) (hy : Off T w v ys) (ho : w1.ownsRow base e T.sz v' (xs.length + ys.length) (xs.flatMap T.cells ++ ys.flatMap T.cells)) (hg : w.grownBy w1 v.ownBlock)
    (hat : v'.ownBlock = v.ownBlock ∨ v'.ownBlock = some w.heap.size) : OwnEls T w1 base e v' (xs ++ ys) := by
  refine ⟨by rw [List.length_append, List.flatMap_append]; exact ho, fun a ha p hp => ?_⟩
  have hh : Sl w p.1 p.2 ∧ (p.2 ≠ [] → v.ownBlock ≠ none → p.1.ownBlock ≠ v.ownBlock) := by
    rcases List.mem_append.1 ha with ha | ha
    · exact h a ha p hp
    · exact hy a ha p hp
  refine ⟨hh.1.grown hg (fun hl hn => hh.2 hl hn), fun hl hn he => ?_⟩
  rcases hat with h4 | h4
  · rw [h4] at he hn; exact hh.2 hl hn he
  · have := hh.1.lt hl (he.trans h4); omega
end
end Go.Cov
