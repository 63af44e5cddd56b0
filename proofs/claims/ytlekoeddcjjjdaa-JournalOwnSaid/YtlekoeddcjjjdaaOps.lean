/-
  Lemmas of this claim's own: slices of calls on a journal. Over any program.
-/
import Derived.Test.YtlekoeddcjjjdaaOpen
import Derived.Test.YtlekoeddcjjjdaaPairs
namespace Go.Cov
open Go.RowKit Go.ChangeShapes Go.WideShapes Go.Deep
structure Ow where
  what : Int
  kA : Option Addr
  kc : Nat
  k : List UInt8
  vA : Option Addr
  vc : Nat
  v : List UInt8
  n : Int
deriving Inhabited
def Ow.key (a : Ow) : Value := .slice a.kA a.k.length a.kc
def Ow.val (a : Ow) : Value := .slice a.vA a.v.length a.vc
def owEl : El Ow where
  sz := 4
  cells := fun a => [.int .i64 a.what, a.key, a.val, .int .i64 a.n]
  cons := fun a => [(a.key, a.k), (a.val, a.v)]
  len := fun _ => rfl
  one := fun a u hu => by
    rcases List.mem_cons.1 hu with rfl | hu
    · rfl
    · rcases List.mem_cons.1 hu with rfl | hu
      · rfl
      · rcases List.mem_cons.1 hu with rfl | hu
        · rfl
        · rw [List.mem_singleton.1 hu]; rfl
  pos := by decide
theorem ow_at {w : World} {A : Option Addr} {xs : List Ow} (h : Els owEl w A xs) (i : Nat) (hi : i < xs.length) :
    ∃ ad, A = some ad ∧ w.cell? (ad.add (i * 4)) = some (.int .i64 xs[i].what) ∧ w.cell? ⟨(ad.add (i * 4)).block, (ad.add (i * 4)).off + 1, none⟩ = some (.slice xs[i].kA xs[i].k.length xs[i].kc) ∧ w.cell? ⟨(ad.add (i * 4)).block, (ad.add (i * 4)).off + 2, none⟩ = some (.slice xs[i].vA xs[i].v.length xs[i].vc) ∧ w.cell? ⟨(ad.add (i * 4)).block, (ad.add (i * 4)).off + 3, none⟩ = some (.int .i64 xs[i].n) ∧ Rd w xs[i].kA (xs[i].k.map byt) ∧ Rd w xs[i].vA (xs[i].v.map byt) := by
  obtain ⟨ad, hA, hc, hp⟩ := h.at' i hi
  refine ⟨ad, hA, ?_, hc 1 _ rfl, hc 2 _ rfl, hc 3 _ rfl, ?_, ?_⟩
  · have := hc 0 _ rfl
    rwa [add_zero'] at this
  · obtain ⟨A', c, he, _, _, hr⟩ := hp (xs[i].key, xs[i].k) (by simp [owEl])
    unfold Ow.key at he
    injection he with h1 h2 h3
    rw [h1]; exact hr
  · obtain ⟨A', c, he, _, _, hr⟩ := hp (xs[i].val, xs[i].v) (by simp [owEl])
    unfold Ow.val at he
    injection he with h1 h2 h3
    rw [h1]; exact hr
section
variable {H : Type} {enc : TypeId × Value → H} {P : Program} {W : World} {base : Nat} {spare : Nat → Bool} {held : Bool}
theorem inv_op {t be : TypeId} {f0 f1 f2 f3 : Field} (ht : P.underlying t = some (.struct #[f0, f1, f2, f3])) (hct : P.cellsOf t = 4) (ho : f0.offset = 0 ∧ f1.offset = 1 ∧ f2.offset = 2 ∧ f3.offset = 3) (h0 : P.underlying f0.type = some (.int .i64)) (h1 : P.underlying f1.type = some (.slice be)) (h2 : P.underlying f2.type = some (.slice be)) (h3 : P.underlying f3.type = some (.int .i64))
    (hc : P.cellsOf f0.type = 1 ∧ P.cellsOf f1.type = 1 ∧ P.cellsOf f2.type = 1 ∧ P.cellsOf f3.type = 1) (hb : P.underlying be = some (.int .u8)) (hcb : P.cellsOf be = 1) :
    ∀ n cs x, DataW.trod enc P W base spare held n t cs = some x → ∃ a : Ow, cs = owEl.cells a ∧ ((∀ p ∈ owEl.cons a, Sl W p.1 p.2) ∧ (Lit.int .i64 a.what).wf = true ∧ (Lit.int .i64 a.n).wf = true) := by
  intro n cs x h
  obtain ⟨m, hl, hf⟩ := inv_struct ht h
  rw [hct] at hl
  obtain ⟨y0, g0⟩ := hf 0 f0 rfl
  obtain ⟨y1, g1⟩ := hf 1 f1 rfl
  obtain ⟨y2, g2⟩ := hf 2 f2 rfl
  obtain ⟨y3, g3⟩ := hf 3 f3 rfl
  match cs, hl with
  | [u, v, z, q], _ =>
    rw [ho.1, hc.1] at g0
    rw [ho.2.1, hc.2.1] at g1
    rw [ho.2.2.1, hc.2.2.1] at g2
    rw [ho.2.2.2, hc.2.2.2] at g3
    obtain ⟨a, e0, s0⟩ := inv_int h0 _ _ _ g0
    obtain ⟨d1, e1, s1⟩ := inv_slice h1 hb hcb _ _ _ g1
    obtain ⟨d2, e2, s2⟩ := inv_slice h2 hb hcb _ _ _ g2
    obtain ⟨b, e3, s3⟩ := inv_int h3 _ _ _ g3
    have e0 : u = .int .i64 a := by simpa [one] using e0
    have e1 : v = d1.1 := by simpa [fst1] using e1
    have e2 : z = d2.1 := by simpa [fst1] using e2
    have e3 : q = .int .i64 b := by simpa [one] using e3
    obtain ⟨A, c, ha, r1⟩ := s1
    obtain ⟨B, d, hb', r2⟩ := s2
    refine ⟨⟨a, A, c, d1.2, B, d, d2.2, b⟩, ?_, ?_, s0, s3⟩
    · rw [e0, e1, e2, e3, ha, hb']; rfl
    · intro p hp
      rcases List.mem_cons.1 hp with rfl | hp
      · exact ⟨A, c, rfl, r1⟩
      · rw [List.mem_singleton.1 hp]; exact ⟨B, d, rfl, r2⟩
theorem open_ops {ts t be : TypeId} {f0 f1 f2 f3 : Field} (hs : P.underlying ts = some (.slice t)) (ht : P.underlying t = some (.struct #[f0, f1, f2, f3])) (hct : P.cellsOf t = 4) (ho : f0.offset = 0 ∧ f1.offset = 1 ∧ f2.offset = 2 ∧ f3.offset = 3) (h0 : P.underlying f0.type = some (.int .i64)) (h1 : P.underlying f1.type = some (.slice be)) (h2 : P.underlying f2.type = some (.slice be)) (h3 : P.underlying f3.type = some (.int .i64))
    (hc : P.cellsOf f0.type = 1 ∧ P.cellsOf f1.type = 1 ∧ P.cellsOf f2.type = 1 ∧ P.cellsOf f3.type = 1) (hb : P.underlying be = some (.int .u8)) (hcb : P.cellsOf be = 1)
    {r : Reach} {b0 : Nat} {v : Value} {d : DataW H} {p : List MemPlace} (hval : Value.okWide P W r b0 ts v) (h : DataW.Trod enc P W base spare held ts v d p) :
    ∃ (A : Option Addr) (c : Nat) (xs : List Ow), v = .slice A xs.length c ∧ xs.length ≤ c ∧ c ≤ maxLen ∧ Els owEl W A xs ∧ ∀ a ∈ xs, (Lit.int .i64 a.what).wf = true ∧ (Lit.int .i64 a.n).wf = true := by
  obtain ⟨A, c, l, hv, h1, h2, _, h3, h4, h5⟩ := open_arg (sz := 4) owEl.cells _ hs hct owEl.len (inv_op ht hct ho h0 h1 h2 h3 hc hb hcb) hval h
  exact ⟨A, c, l, hv, h1, h2, ⟨h3, fun a ha => (h4 a ha).1⟩, fun a ha => (h4 a ha).2⟩
end
end Go.Cov
