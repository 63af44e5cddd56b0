import Derived.Test.YtlekoeddcjjjdaaStoreB
namespace Go.Proofs.Ytlekoeddcjjjdaa
open Go.RowKit Go.Cov Go.Lib
/-- what stands at a key -/
def getP (l : List (List UInt8 × List UInt8)) (m : List UInt8) : Option (List UInt8) := (l.find? fun a => decide (a.1 = m)).map (·.2)
theorem getP_ix (xs : List Pr) (m : List UInt8) : (ixF (fun a => decide (a.k = m)) xs = -1 ∧ getP (xs.map Pr.data) m = none) ∨ ∃ i, ∃ hi : i < xs.length, ixF (fun a => decide (a.k = m)) xs = i ∧ getP (xs.map Pr.data) m = some xs[i].v := by
  unfold ixF getP
  rw [List.find?_map]
  cases h : xs.findIdx? (fun a => decide (a.k = m)) with
  | none =>
    left
    refine ⟨rfl, ?_⟩
    rw [List.findIdx?_eq_none_iff] at h
    have : xs.find? ((fun a => decide (a.1 = m)) ∘ Pr.data) = none := by
      rw [List.find?_eq_none]
      intro x hx
      have e : decide (x.k = m) = false := h x hx
      intro hh
      rw [show decide (x.k = m) = true from hh] at e
      cases e
    rw [this]; rfl
  | some i =>
    right
    obtain ⟨hi, hp, hl⟩ := List.findIdx?_eq_some_iff_getElem.1 h
    refine ⟨i, hi, rfl, ?_⟩
    have : xs.find? ((fun a => decide (a.1 = m)) ∘ Pr.data) = some xs[i] := by
      rw [List.find?_eq_some_iff_getElem]
      exact ⟨hp, i, hi, rfl, fun j hj => by have e : ¬ decide (xs[j].k = m) = true := hl j hj; show (!decide (xs[j].k = m)) = true; simpa using e⟩
    rw [this]; rfl
set_option maxRecDepth 100000 in
theorem get_any {A B : Option Addr} {c d : Nat} {xs : List Pr} {m : List UInt8} {w : World} (h : Els prEl w A xs) (hz : xs.length ≤ 140737488351236) (hv : ∀ x ∈ xs, x.v.length ≤ 140737488351236) (g : Rd w B (m.map byt)) :
    Calls Try.prog 34 #[.slice A xs.length c, .slice B m.length d] w fun e w' => ∃ D k r, e = .returned (.tuple #[.slice D (r : List UInt8).length k, .bool (getP (xs.map Pr.data) m).isSome]) ∧ (getP (xs.map Pr.data) m).getD [] = r ∧ w'.ownsRow w.heap.size 5 1 (.slice D r.length k) r.length (r.map byt) ∧ Below w.heap.size w w' := by
  have K := hid (find_any (c := c) (d := d) h hz g)
  rcases getP_ix xs m with ⟨h1, h2⟩ | ⟨i, hi, h1, h2⟩
  · rw [h1] at K
    rw [h2]
    clear h1 h2
    go_enter Try.func34, Try.ntmps34
    go_wp2_with fail
    refine K.out.mono ?_
    rintro e w2 ⟨rfl, hb2⟩
    go_wp2_with fail
    go_ret2
    exact ⟨_, _, [], rfl, rfl, World.ownsRow_nil _ _ _ _, hb2⟩
  · rw [h1] at K
    rw [h2]
    have h := h
    have hvi := hv _ (List.getElem_mem hi)
    have H := hid (fun W (hW : Below w.heap.size w W) => pr_at (h.below hW) i hi)
    generalize xs[i] = x at H hvi
    clear h1 h2 hv
    have i1 : (i : Int) < xs.length := by omega
    go_enter Try.func34, Try.ntmps34
    go_wp2_with fail
    refine K.out.mono ?_
    rintro e w2 ⟨rfl, hb2⟩
    obtain ⟨ad, rfl, h1, h2, _, h3⟩ := H.out _ hb2
    have KC := hid (clone_any (c := x.vc) h3 hvi)
    unfold Pr.val at h2
    go_wp2_with fail
    refine KC.out.mono ?_
    rintro e w3 ⟨v, rfl, own3, hb3⟩
    obtain ⟨D, k, rfl, _⟩ := own_shape own3
    go_wp2_with fail
    go_ret2
    exact ⟨_, _, x.v, rfl, rfl, own_mono own3 hb2.size, below_step hb2 hb3⟩
end Go.Proofs.Ytlekoeddcjjjdaa
