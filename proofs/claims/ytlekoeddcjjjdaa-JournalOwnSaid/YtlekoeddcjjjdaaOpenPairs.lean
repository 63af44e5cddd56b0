/-
  Lemmas of this claim's own: a slice of pairs, read as data. Over any program.
-/
import Derived.Test.YtlekoeddcjjjdaaOpen
import Derived.Test.YtlekoeddcjjjdaaPairs
namespace Go.Cov
open Go.RowKit Go.ChangeShapes Go.WideShapes Go.Deep
section
variable {H : Type} {enc : TypeId × Value → H} {P : Program} {W : World} {base : Nat} {spare : Nat → Bool} {held : Bool}
theorem inv_pair {t be : TypeId} {f0 f1 : Field} (ht : P.underlying t = some (.struct #[f0, f1])) (hct : P.cellsOf t = 2) (ho : f0.offset = 0 ∧ f1.offset = 1) (h0 : P.underlying f0.type = some (.slice be)) (h1 : P.underlying f1.type = some (.slice be)) (hc0 : P.cellsOf f0.type = 1 ∧ P.cellsOf f1.type = 1) (hb : P.underlying be = some (.int .u8)) (hcb : P.cellsOf be = 1) :
    ∀ n cs x, DataW.trod enc P W base spare held n t cs = some x → ∃ a : Pr, cs = prEl.cells a ∧ ∀ p ∈ prEl.cons a, Sl W p.1 p.2 := by
  intro n cs x h
  obtain ⟨y0, y1, m, _, hl, g0, g1⟩ := trod_struct2 ht h
  rw [hct] at hl
  match cs, hl with
  | [u, v], _ =>
    rw [ho.1, hc0.1] at g0
    rw [ho.2, hc0.2] at g1
    obtain ⟨a, e0, s0⟩ := inv_slice h0 hb hcb _ _ _ g0
    obtain ⟨b, e1, s1⟩ := inv_slice h1 hb hcb _ _ _ g1
    have e0 : u = a.1 := by simpa [fst1] using e0
    have e1 : v = b.1 := by simpa [fst1] using e1
    obtain ⟨A, c, ha, r0⟩ := s0
    obtain ⟨B, d, hb', r1⟩ := s1
    refine ⟨⟨A, c, a.2, B, d, b.2⟩, ?_, ?_⟩
    · rw [e0, e1, ha, hb']; rfl
    · intro p hp
      rcases List.mem_cons.1 hp with rfl | hp
      · exact ⟨A, c, rfl, r0⟩
      · rw [List.mem_singleton.1 hp]; exact ⟨B, d, rfl, r1⟩
theorem open_pairs {t e be : TypeId} {f0 f1 : Field} (hs : P.underlying t = some (.slice e)) (ht : P.underlying e = some (.struct #[f0, f1])) (hct : P.cellsOf e = 2) (ho : f0.offset = 0 ∧ f1.offset = 1) (h0 : P.underlying f0.type = some (.slice be)) (h1 : P.underlying f1.type = some (.slice be)) (hc0 : P.cellsOf f0.type = 1 ∧ P.cellsOf f1.type = 1) (hb : P.underlying be = some (.int .u8)) (hcb : P.cellsOf be = 1)
    {r : Reach} {b0 : Nat} {v : Value} {d : DataW H} {p : List MemPlace} (hval : Value.okWide P W r b0 t v) (h : DataW.Trod enc P W base spare held t v d p) :
    ∃ (A : Option Addr) (c : Nat) (xs : List Pr), v = .slice A xs.length c ∧ xs.length ≤ c ∧ c ≤ maxLen ∧ Els prEl W A xs ∧ (d = .nil ∧ xs = [] ∨ ∃ el sp, d = .slice el sp ∧ el.length = xs.length ∧ sp.length ≤ c) := by
  obtain ⟨A, c, l, hv, h1, h2, _, h3, h4, h5⟩ := open_arg (sz := 2) prEl.cells _ hs hct prEl.len (inv_pair ht hct ho h0 h1 hc0 hb hcb) hval h
  exact ⟨A, c, l, hv, h1, h2, ⟨h3, h4⟩, h5⟩
theorem reach48 {P : Program} {e n : Nat} (he : P.bytesOf e = 48) (h : n * P.bytesOf e ≤ reachBytes) : n ≤ 2932031007403 := by
  rw [he] at h; simp [reachBytes] at h; omega
end
end Go.Cov
