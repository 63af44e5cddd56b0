import Derived.Test.YtoceipdkmafagaaBase
import Derived.Test.YtoceipdkmafagaaWireP
/-! a slice of bytes as a value; a slice of such slices (over any program) -/
namespace Go.Cov
open Go.RowKit
theorem conv_bn {P : Program} {w : World} {src dst e : TypeId} (hs : P.underlying src = some (.slice e)) (he : P.underlying e = some (.int .u8)) (hd : P.underlying dst = some .string) {A : Option Addr} {l : List UInt8} (h : Rd w A (l.map byt)) (n cap : Nat) (hn : l.length = n) :
    (convert src dst (.slice A n cap)).run P w = .ok (.string (str l)) w := by
  subst hn
  exact conv_bs hs he hd h cap
theorem toList_str (l : List UInt8) : (str l).toList = l := by
  have : (str l).data.toList = l := by simp [str]
  rw [ByteArray.toList_eq]
  exact this
theorem str_eq (a : List UInt8) : ((str a).toList == (str a).toList) = true := by simp
theorem str_ne {a b : List UInt8} (h : a ≠ b) : ((str a).toList == (str b).toList) = false := by
  rw [toList_str, toList_str]; simpa using h
theorem str_beq (a b : List UInt8) : ((str a).toList == (str b).toList) = decide (a = b) := by
  rw [toList_str, toList_str]
  by_cases h : a = b
  · subst h; simp
  · rw [decide_eq_false h]; simpa using h
theorem below_alloc (w : World) (o : Obj) : Below w.heap.size w (w.alloc o) := (Below.refl _ _).alloc (Nat.le_refl _) o
theorem byt_one (l : List UInt8) : ∀ u ∈ l.map byt, u.oneCell' = true := by
  intro u hu
  obtain ⟨b, _, rfl⟩ := List.mem_map.1 hu
  rfl
/-- a box that a call made, whole -/
theorem own_box (w : World) (e : TypeId) (cs : Array Value) (n : Nat) (hn : cs.size = n) (hm : n ≤ maxLen) : (w.alloc (.cells cs e)).ownsRow w.heap.size e 1 (.slice (some ⟨w.heap.size, 0, none⟩) n n) n cs.toList := by
  subst hn
  exact ⟨by simp, .inr ⟨w.heap.size, cs.size, cs, rfl, Nat.le_refl _, heap_alloc_new w _, Nat.le_refl _, hm, by simp, by rw [Nat.mul_one]; exact List.take_of_length_le (by simp)⟩⟩
theorem rd_boxf (w : World) (cs : Array Value) (t : TypeId) (fr : Nat × Nat) : Rd (w.alloc (.cells cs t fr)) (some ⟨w.heap.size, 0, none⟩) cs.toList := by
  intro j u hj
  refine ⟨_, rfl, ?_⟩
  rw [add_none, cell_of_row (w.alloc (.cells cs t fr)) w.heap.size (0 + j) cs t fr (heap_alloc_new w _)]
  simpa using hj
theorem box_cell (w : World) (cs : Array Value) (t : TypeId) (i : Nat) (v : Value) (h : cs[i]? = some v) : (w.alloc (.cells cs t)).cell? ⟨w.heap.size, i, none⟩ = some v := by
  rw [cell_of_row (w.alloc (.cells cs t)) w.heap.size i cs t (0, 0) (heap_alloc_new w _)]
  exact h
/-- 'v is a slice that reads l' -/
def Sl (w : World) (v : Value) (l : List UInt8) : Prop := ∃ A c, v = .slice A l.length c ∧ l.length ≤ c ∧ c ≤ maxLen ∧ Rd w A (l.map byt)
theorem Sl.keep {w w' : World} {v : Value} {l : List UInt8} (h : Sl w v l) (hk : ∀ p u, w.cell? p = some u → w'.cell? p = some u) : Sl w' v l := by
  obtain ⟨A, c, h1, h2, h3, h4⟩ := h
  exact ⟨A, c, h1, h2, h3, h4.keep hk⟩
theorem Sl.below {w w' : World} {v : Value} {l : List UInt8} (h : Sl w v l) (hb : Below w.heap.size w w') : Sl w' v l := h.keep fun _ _ hc => (hb.cell (cell_lt hc)).trans hc
theorem Sl.len {w : World} {v : Value} {l : List UInt8} (h : Sl w v l) : l.length ≤ maxLen := by
  obtain ⟨A, c, _, h2, h3, _⟩ := h; omega
theorem own_sl {w : World} {base : Nat} {e : TypeId} {v : Value} {l : List UInt8} (h : w.ownsRow base e 1 v l.length (l.map byt)) : Sl w v l := by
  obtain ⟨A, c, rfl, h1, h2, _⟩ := own_shape h
  exact ⟨A, c, rfl, h1, h2, own_rd h⟩
/-- the cells from A on are slices that read these texts -/
def RowRd (w : World) (A : Option Addr) (ls : List (List UInt8)) : Prop := ∃ vs : List Value, Rd w A vs ∧ vs.length = ls.length ∧ ∀ (i : Nat) (l : List UInt8), ls[i]? = some l → ∃ v, vs[i]? = some v ∧ Sl w v l
theorem RowRd.keep {w w' : World} {A : Option Addr} {ls : List (List UInt8)} (h : RowRd w A ls) (hk : ∀ p u, w.cell? p = some u → w'.cell? p = some u) : RowRd w' A ls := by
  obtain ⟨vs, h1, h2, h3⟩ := h
  refine ⟨vs, h1.keep hk, h2, fun i l hl => ?_⟩
  obtain ⟨v, hv, hs⟩ := h3 i l hl
  exact ⟨v, hv, hs.keep hk⟩
theorem RowRd.below {w w' : World} {A : Option Addr} {ls : List (List UInt8)} (h : RowRd w A ls) (hb : Below w.heap.size w w') : RowRd w' A ls := h.keep fun _ _ hc => (hb.cell (cell_lt hc)).trans hc
theorem RowRd.at' {w : World} {A : Option Addr} {ls : List (List UInt8)} (h : RowRd w A ls) (i : Nat) (hi : i < ls.length) :
    ∃ ad B c, A = some ad ∧ w.cell? (ad.add i) = some (.slice B ls[i].length c) ∧ ls[i].length ≤ c ∧ c ≤ maxLen ∧ Rd w B (ls[i].map byt) := by
  obtain ⟨vs, h1, h2, h3⟩ := h
  obtain ⟨v, hv, B, c, rfl, hc, hm, hr⟩ := h3 i ls[i] (List.getElem?_eq_getElem hi)
  obtain ⟨ad, hA, hcell⟩ := h1 i _ hv
  exact ⟨ad, B, c, hA, hcell, hc, hm, hr⟩
theorem rd_grown {w w' : World} {A : Option Addr} {xs : List Value} {row : Option Nat} (h : Rd w A xs) (hg : w.grownBy w' row) (hne : ∀ ad, A = some ad → some ad.block ≠ row) : Rd w' A xs := fun j u hj => by
  obtain ⟨ad, hA, hc⟩ := h j u hj
  exact ⟨ad, hA, hg.cell hc (by rw [block_add]; exact hne ad hA)⟩
/-- a slice of slices that the call owns; what its cells lead to lies outside its own block -/
def OwnRows (w : World) (base : Nat) (e : TypeId) (v : Value) (ls : List (List UInt8)) : Prop :=
  ∃ vs : List Value, w.ownsRow base e 1 v ls.length vs ∧ ∀ (i : Nat) (l : List UInt8), ls[i]? = some l → ∃ A c, vs[i]? = some (.slice A l.length c) ∧ l.length ≤ c ∧ c ≤ maxLen ∧ Rd w A (l.map byt) ∧ ∀ ad, A = some ad → base ≤ ad.block ∧ ad.block < w.heap.size ∧ some ad.block ≠ v.ownBlock
theorem OwnRows.nil (w : World) (base : Nat) (e : TypeId) : OwnRows w base e (.slice none 0 0) [] := ⟨[], World.ownsRow_nil _ _ _ _, fun i l h => by simp at h⟩
theorem OwnRows.rd {w : World} {base : Nat} {e : TypeId} {v : Value} {ls : List (List UInt8)} (h : OwnRows w base e v ls) : ∃ A c, v = .slice A ls.length c ∧ ls.length ≤ c ∧ c ≤ maxLen ∧ RowRd w A ls := by
  obtain ⟨vs, h1, h2⟩ := h
  obtain ⟨A, c, rfl, hc, hm, _⟩ := own_shape h1
  refine ⟨A, c, rfl, hc, hm, vs, own_rd h1, by have := h1.1; omega, fun i l hl => ?_⟩
  obtain ⟨B, d, hv, h3, h4, h5, _⟩ := h2 i l hl
  exact ⟨_, hv, B, d, rfl, h3, h4, h5⟩
theorem OwnRows.below {w w' : World} {base : Nat} {e : TypeId} {v : Value} {ls : List (List UInt8)} (h : OwnRows w base e v ls) (hb : Below w.heap.size w w') : OwnRows w' base e v ls := by
  obtain ⟨vs, h1, h2⟩ := h
  refine ⟨vs, own_below h1 hb, fun i l hl => ?_⟩
  obtain ⟨B, d, hv, h3, h4, h5, h6⟩ := h2 i l hl
  exact ⟨B, d, hv, h3, h4, h5.below hb, fun ad hB => ⟨(h6 ad hB).1, Nat.lt_of_lt_of_le (h6 ad hB).2.1 hb.size, (h6 ad hB).2.2⟩⟩
theorem OwnRows.mono {w : World} {base base' : Nat} {e : TypeId} {v : Value} {ls : List (List UInt8)} (h : OwnRows w base e v ls) (hb : base' ≤ base) : OwnRows w base' e v ls := by
  obtain ⟨vs, h1, h2⟩ := h
  refine ⟨vs, own_mono h1 hb, fun i l hl => ?_⟩
  obtain ⟨B, d, hv, h3, h4, h5, h6⟩ := h2 i l hl
  exact ⟨B, d, hv, h3, h4, h5, fun ad hB => ⟨Nat.le_trans hb (h6 ad hB).1, (h6 ad hB).2⟩⟩
/-- kept behind a write into a block below its own -/
theorem OwnRows.kept {w w' : World} {base : Nat} {e : TypeId} {v : Value} {ls : List (List UInt8)} {row : Option Nat} (h : OwnRows w base e v ls) (hg : w.grownBy w' row) (hr : ∀ g, row = some g → g < base) : OwnRows w' base e v ls := by
  obtain ⟨vs, h1, h2⟩ := h
  refine ⟨vs, h1.kept hg ?_, fun i l hl => ?_⟩
  · cases hv : v.ownBlock with
    | none => exact .inl rfl
    | some k => right; intro hh; have := hr k hh.symm; have := (own_lt h1 hv).1; omega
  · obtain ⟨B, d, hv, h3, h4, h5, h6⟩ := h2 i l hl
    refine ⟨B, d, hv, h3, h4, rd_grown h5 hg (fun ad hB hh => ?_), fun ad hB => ⟨(h6 ad hB).1, Nat.lt_of_lt_of_le (h6 ad hB).2.1 hg.size, (h6 ad hB).2.2⟩⟩
    have := hr _ hh.symm
    have := (h6 ad hB).1
    omega
/-- a row of cells kept behind a write into a block below its own -/
theorem own_keep {w w' : World} {base : Nat} {e : TypeId} {size : Nat} {v : Value} {n : Nat} {xs : List Value} {row : Option Nat} (h : w.ownsRow base e size v n xs) (hg : w.grownBy w' row) (hr : ∀ g, row = some g → g < base) : w'.ownsRow base e size v n xs := h.kept hg (by
  cases hv : v.ownBlock with
  | none => exact .inl rfl
  | some k => right; intro hh; have := hr k hh.symm; have := (own_lt h hv).1; omega)
/-- what 'append(out, s)' leaves: s a slice that lies outside out's block -/
theorem OwnRows.app {w w1 : World} {base : Nat} {e : TypeId} {v v' : Value} {ls : List (List UInt8)} {vs : List Value} {l : List UInt8} {A : Option Addr} {c : Nat}
    (h2 : ∀ (i : Nat) (l : List UInt8), ls[i]? = some l → ∃ A c, vs[i]? = some (.slice A l.length c) ∧ l.length ≤ c ∧ c ≤ maxLen ∧ Rd w A (l.map byt) ∧ ∀ ad, A = some ad → base ≤ ad.block ∧ ad.block < w.heap.size ∧ some ad.block ≠ v.ownBlock)
    (hvl : vs.length = ls.length) (ho : w1.ownsRow base e 1 v' (ls.length + 1) (vs ++ [.slice A l.length c])) (hg : w.grownBy w1 v.ownBlock) (hat : v'.ownBlock = v.ownBlock ∨ v'.ownBlock = some w.heap.size)
    (hc : l.length ≤ c) (hm : c ≤ maxLen) (hr : Rd w A (l.map byt)) (hne : ∀ ad, A = some ad → base ≤ ad.block ∧ ad.block < w.heap.size ∧ some ad.block ≠ v.ownBlock) : OwnRows w1 base e v' (ls ++ [l]) := by
  have hnew : ∀ ad : Addr, base ≤ ad.block ∧ ad.block < w.heap.size ∧ some ad.block ≠ v.ownBlock → base ≤ ad.block ∧ ad.block < w1.heap.size ∧ some ad.block ≠ v'.ownBlock := by
    intro ad ⟨h0, h1, h3⟩
    refine ⟨h0, Nat.lt_of_lt_of_le h1 hg.size, fun he => ?_⟩
    rcases hat with h4 | h4
    · rw [h4] at he; exact h3 he
    · rw [h4] at he; injection he with he; omega
  refine ⟨_, by simpa using ho, fun i x hx => ?_⟩
  by_cases hi : i < ls.length
  · rw [List.getElem?_append_left hi] at hx
    obtain ⟨B, d, hv, h3, h4, h5, h6⟩ := h2 i x hx
    exact ⟨B, d, by rw [List.getElem?_append_left (by omega)]; exact hv, h3, h4, rd_grown h5 hg (fun ad hB => (h6 ad hB).2.2), fun ad hB => hnew ad (h6 ad hB)⟩
  · rw [List.getElem?_append_right (by omega)] at hx
    have hi0 : i - ls.length = 0 := by
      rcases Nat.eq_zero_or_pos (i - ls.length) with h | h
      · exact h
      · rw [List.getElem?_eq_none (by simp; omega)] at hx; cases hx
    rw [hi0] at hx
    injection hx with hx
    subst hx
    refine ⟨A, c, ?_, hc, hm, rd_grown hr hg (fun ad hA => (hne ad hA).2.2), fun ad hA => hnew ad (hne ad hA)⟩
    rw [List.getElem?_append_right (by omega), hvl, hi0]; rfl
end Go.Cov
