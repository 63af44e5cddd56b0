import Derived.Test.YtlekoeddcjjjdaaStoreG
namespace Go.Proofs.Ytlekoeddcjjjdaa
open Go.RowKit Go.Cov Go.Lib
/-- where a pair is put -/
def atP (l : List (List UInt8 × List UInt8)) (m : List UInt8) : Nat × Nat :=
  match l.findIdx? fun a => decide (a.1 = m) with
  | some i => (i, i + 1)
  | none => match l.findIdx? fun a => decide (0 < compareBytes a.1 m) with
    | some j => (j, j)
    | none => (l.length, l.length)
def insP (l : List (List UInt8 × List UInt8)) (m v : List UInt8) : List (List UInt8 × List UInt8) := l.take (atP l m).1 ++ (m, v) :: l.drop (atP l m).2
def putR (l : List (List UInt8 × List UInt8)) (m v : List UInt8) : List (List UInt8 × List UInt8) × Int :=
  if 64 < m.length ∨ 256 < v.length then ([], 1) else if 2048 < sizeP (insP l m v) then ([], 71) else (insP l m v, 0)
theorem ixF_data (p : List UInt8 → Bool) (xs : List Pr) : (ixF (fun a => p a.k) xs = -1 ∧ (xs.map Pr.data).findIdx? (fun a => p a.1) = none) ∨ ∃ i, i < xs.length ∧ ixF (fun a => p a.k) xs = (i : Int) ∧ (xs.map Pr.data).findIdx? (fun a => p a.1) = some i := by
  unfold ixF
  rw [List.findIdx?_map]
  have hh : xs.findIdx? ((fun a : List UInt8 × List UInt8 => p a.1) ∘ Pr.data) = xs.findIdx? (fun a => p a.k) := rfl
  rw [hh]
  cases h : xs.findIdx? (fun a => p a.k) with
  | none => exact .inl ⟨rfl, rfl⟩
  | some i => exact .inr ⟨i, (List.findIdx?_eq_some_iff_getElem.1 h).1, rfl, rfl⟩
theorem rd3 {w : World} {b : Nat} {x y z : Value} (h0 : w.cell? ⟨b, 0, none⟩ = some x) (h1 : w.cell? ⟨b, 1, none⟩ = some y) (h2 : w.cell? ⟨b, 2, none⟩ = some z) : Rd w (some ⟨b, 0, none⟩) [x, y, z] := by
  intro j u hj
  refine ⟨_, rfl, ?_⟩
  rw [add_none]
  rcases j with _ | _ | _ | j
  · cases hj; exact h0
  · cases hj; exact h1
  · cases hj; exact h2
  · simp at hj
/-- a pair just made -/
theorem one_els {w : World} {b : Nat} {K V : Option Addr} {c d : Nat} {m v : List UInt8} (h0 : w.cell? ⟨b, 0, none⟩ = some (.slice K m.length c)) (h1 : w.cell? ⟨b, 1, none⟩ = some (.slice V v.length d)) (hm : Sl w (.slice K m.length c) m) (hv : Sl w (.slice V v.length d) v) : Els prEl w (some ⟨b, 0, none⟩) [⟨K, c, m, V, d, v⟩] := by
  refine ⟨rd2 h0 h1, fun a ha p hp => ?_⟩
  rw [List.mem_singleton.1 ha] at hp
  rcases List.mem_cons.1 hp with rfl | hp
  · exact hm
  · rw [List.mem_singleton.1 hp]; exact hv
theorem own_sl {w : World} {base : Nat} {e : TypeId} {K : Option Addr} {c : Nat} {m : List UInt8} (h : w.ownsRow base e 1 (.slice K m.length c) m.length (m.map byt)) : Sl w (.slice K m.length c) m := by
  obtain ⟨A, c', he, h1, h2, _⟩ := own_shape h
  injection he with x1 x2 x3
  subst x1 x3
  exact ⟨_, _, rfl, h1, h2, own_rd h⟩
end Go.Proofs.Ytlekoeddcjjjdaa
