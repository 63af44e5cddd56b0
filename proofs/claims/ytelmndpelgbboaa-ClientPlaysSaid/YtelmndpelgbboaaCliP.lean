import Derived.Test.YtelmndpelgbboaaCliJ
import Derived.Test.YtelmndpelgbboaaPlain1
/-! calls on a client, as a law's argument; how much they are -/
namespace Go.Proofs.Ytelmndpelgbboaa
open Go.RowKit Go.Conc Go.Cov Go.Lib Go.ChangeShapes Go.WideShapes Go.Deep
/-- a call: what it is, its text, its message -/
structure Qw where
  what : Int
  A : Option Addr
  c : Nat
  body : List UInt8
  m : Mg
deriving Inhabited
def qwEl : El Qw where
  sz := 17
  cells := fun a => .int .i64 a.what :: .slice a.A a.body.length a.c :: a.m.cells
  cons := fun a => [(.slice a.A a.body.length a.c, a.body), (.slice a.m.A a.m.body.length a.m.c, a.m.body)]
  len := fun _ => rfl
  one := fun a u hu => by
    simp only [Mg.cells, List.mem_cons, List.not_mem_nil, or_false] at hu
    rcases hu with rfl | rfl | rfl | rfl | rfl | rfl | rfl | rfl | rfl | rfl | rfl | rfl | rfl | rfl | rfl | rfl | rfl <;> rfl
  pos := by decide
theorem sl_rd {w : World} {A : Option Addr} {c : Nat} {l : List UInt8} (h : Sl w (.slice A l.length c) l) : Rd w A (l.map byt) := by
  obtain ⟨A', c', he, _, _, hr⟩ := h
  injection he with h1
  rw [h1]; exact hr
theorem qw_at {w : World} {A : Option Addr} {xs : List Qw} (h : Els qwEl w A xs) (i : Nat) (hi : i < xs.length) :
    ∃ ad, A = some ad ∧ (∀ j u, (qwEl.cells xs[i])[j]? = some u → w.cell? ((ad.add (i * 17)).add j) = some u) ∧ Rd w xs[i].A (xs[i].body.map byt) ∧ Rd w xs[i].m.A (xs[i].m.body.map byt) := by
  obtain ⟨ad, hA, hc, hp⟩ := h.at' i hi
  exact ⟨ad, hA, hc, sl_rd (hp (.slice xs[i].A xs[i].body.length xs[i].c, xs[i].body) (by simp [qwEl])), sl_rd (hp (.slice xs[i].m.A xs[i].m.body.length xs[i].m.c, xs[i].m.body) (by simp [qwEl]))⟩
section
variable {H : Type} {enc : TypeId × Value → H} {W : World} {base : Nat} {spare : Nat → Bool} {held : Bool}
theorem inv_anyslice {P : Program} {t e : TypeId} (ht : P.underlying t = some (.slice e)) {fuel : Nat} {cs : List Value} {x : DataW H × List MemPlace} (h : DataW.trod enc P W base spare held fuel t cs = some x) : ∃ A n c, cs = [.slice A n c] := by
  rcases open_slice ht h with ⟨rfl, _⟩ | ⟨a, len, cap, m, n, D, Pl, rfl, _⟩
  · exact ⟨_, _, _, rfl⟩
  · exact ⟨_, _, _, rfl⟩
set_option maxRecDepth 100000 in
set_option maxHeartbeats 1600000 in
theorem inv_mg : ∀ n cs x, DataW.trod enc Try.prog W base spare held n 34 cs = some x → ∃ m : Mg, cs = m.cells ∧ Sl W (.slice m.A m.body.length m.c) m.body := by
  intro n cs x hf
  obtain ⟨m, hlen, hf⟩ := inv_struct Try.underlying34 hf
  have hct : Try.prog.cellsOf 34 = 15 := by kernel_rfl
  rw [hct] at hlen
  obtain ⟨y0, k0⟩ := hf 0 _ rfl
  obtain ⟨y1, k1⟩ := hf 1 _ rfl
  obtain ⟨y2, k2⟩ := hf 2 _ rfl
  obtain ⟨y3, k3⟩ := hf 3 _ rfl
  obtain ⟨y4, k4⟩ := hf 4 _ rfl
  obtain ⟨y5, k5⟩ := hf 5 _ rfl
  obtain ⟨y6, k6⟩ := hf 6 _ rfl
  obtain ⟨y7, k7⟩ := hf 7 _ rfl
  obtain ⟨y8, k8⟩ := hf 8 _ rfl
  obtain ⟨y9, k9⟩ := hf 9 _ rfl
  obtain ⟨y10, k10⟩ := hf 10 _ rfl
  obtain ⟨y11, k11⟩ := hf 11 _ rfl
  obtain ⟨y12, k12⟩ := hf 12 _ rfl
  obtain ⟨y13, k13⟩ := hf 13 _ rfl
  replace k0 : DataW.trod enc Try.prog W base spare held m 27 ((cs.drop 0).take (Try.prog.cellsOf 27)) = some y0 := k0
  replace k1 : DataW.trod enc Try.prog W base spare held m 3 ((cs.drop 1).take (Try.prog.cellsOf 3)) = some y1 := k1
  replace k2 : DataW.trod enc Try.prog W base spare held m 3 ((cs.drop 2).take (Try.prog.cellsOf 3)) = some y2 := k2
  replace k3 : DataW.trod enc Try.prog W base spare held m 2 ((cs.drop 3).take (Try.prog.cellsOf 2)) = some y3 := k3
  replace k4 : DataW.trod enc Try.prog W base spare held m 2 ((cs.drop 4).take (Try.prog.cellsOf 2)) = some y4 := k4
  replace k5 : DataW.trod enc Try.prog W base spare held m 2 ((cs.drop 5).take (Try.prog.cellsOf 2)) = some y5 := k5
  replace k6 : DataW.trod enc Try.prog W base spare held m 2 ((cs.drop 6).take (Try.prog.cellsOf 2)) = some y6 := k6
  replace k7 : DataW.trod enc Try.prog W base spare held m 2 ((cs.drop 7).take (Try.prog.cellsOf 2)) = some y7 := k7
  replace k8 : DataW.trod enc Try.prog W base spare held m 2 ((cs.drop 8).take (Try.prog.cellsOf 2)) = some y8 := k8
  replace k9 : DataW.trod enc Try.prog W base spare held m 2 ((cs.drop 9).take (Try.prog.cellsOf 2)) = some y9 := k9
  replace k10 : DataW.trod enc Try.prog W base spare held m 29 ((cs.drop 10).take (Try.prog.cellsOf 29)) = some y10 := k10
  replace k11 : DataW.trod enc Try.prog W base spare held m 4 ((cs.drop 11).take (Try.prog.cellsOf 4)) = some y11 := k11
  replace k12 : DataW.trod enc Try.prog W base spare held m 32 ((cs.drop 12).take (Try.prog.cellsOf 32)) = some y12 := k12
  replace k13 : DataW.trod enc Try.prog W base spare held m 29 ((cs.drop 14).take (Try.prog.cellsOf 29)) = some y13 := k13
  obtain ⟨u0, u1, u2, u3, u4, u5, u6, u7, u8, u9, u10, u11, u12, u13, u14, hu⟩ : ∃ u0 u1 u2 u3 u4 u5 u6 u7 u8 u9 u10 u11 u12 u13 u14, cs = [u0, u1, u2, u3, u4, u5, u6, u7, u8, u9, u10, u11, u12, u13, u14] := by
    match h : cs, hlen with
    | [u0, u1, u2, u3, u4, u5, u6, u7, u8, u9, u10, u11, u12, u13, u14], _ => exact ⟨_, _, _, _, _, _, _, _, _, _, _, _, _, _, _, rfl⟩
  have cK : Try.prog.cellsOf 27 = 1 := by kernel_rfl
  have ci : Try.prog.cellsOf 3 = 1 := by kernel_rfl
  have cl : Try.prog.cellsOf 2 = 1 := by kernel_rfl
  have cO : Try.prog.cellsOf 4 = 1 := by kernel_rfl
  have cB : Try.prog.cellsOf 29 = 1 := by kernel_rfl
  have cG : Try.prog.cellsOf 32 = 2 := by kernel_rfl
  have cE : Try.prog.cellsOf 30 = 1 := by kernel_rfl
  subst hu
  rw [cK] at k0
  rw [ci] at k1 k2
  rw [cl] at k3 k4 k5 k6 k7 k8 k9
  rw [cB] at k10 k13
  rw [cO] at k11
  rw [cG] at k12
  obtain ⟨m2, _, hf2⟩ := inv_struct Try.underlying32 k12
  obtain ⟨z0, l0⟩ := hf2 0 _ rfl
  obtain ⟨z1, l1⟩ := hf2 1 _ rfl
  replace l0 : DataW.trod enc Try.prog W base spare held m2 2 (([u12, u13].drop 0).take (Try.prog.cellsOf 2)) = some z0 := l0
  replace l1 : DataW.trod enc Try.prog W base spare held m2 30 (([u12, u13].drop 1).take (Try.prog.cellsOf 30)) = some z1 := l1
  rw [cl] at l0
  rw [cE] at l1
  obtain ⟨a0, e0, s0⟩ := inv_int Try.underlying27 _ _ _ k0
  obtain ⟨a1, e1, s1⟩ := inv_int Try.underlying3 _ _ _ k1
  obtain ⟨a2, e2, s2⟩ := inv_int Try.underlying3 _ _ _ k2
  obtain ⟨a3, e3, s3⟩ := inv_int Try.underlying2 _ _ _ k3
  obtain ⟨a4, e4, s4⟩ := inv_int Try.underlying2 _ _ _ k4
  obtain ⟨a5, e5, s5⟩ := inv_int Try.underlying2 _ _ _ k5
  obtain ⟨a6, e6, s6⟩ := inv_int Try.underlying2 _ _ _ k6
  obtain ⟨a7, e7, s7⟩ := inv_int Try.underlying2 _ _ _ k7
  obtain ⟨a8, e8, s8⟩ := inv_int Try.underlying2 _ _ _ k8
  obtain ⟨a9, e9, s9⟩ := inv_int Try.underlying2 _ _ _ k9
  obtain ⟨a10, e10, s10⟩ := inv_slice Try.underlying29 Try.underlying5 (by kernel_rfl) _ _ _ k10
  obtain ⟨a11, e11, _⟩ := inv_bool Try.underlying4 _ _ _ k11
  obtain ⟨a12, e12, s12⟩ := inv_int Try.underlying2 _ _ _ l0
  obtain ⟨A13, n13, c13, e13⟩ := inv_anyslice Try.underlying30 l1
  obtain ⟨A14, n14, c14, e14⟩ := inv_anyslice Try.underlying29 k13
  obtain ⟨A10, c10, q10, hc10, hm10, r10⟩ := s10
  have e0 : u0 = .int .i64 a0 := by simpa [one] using e0
  have e1 : u1 = .int .i64 a1 := by simpa [one] using e1
  have e2 : u2 = .int .i64 a2 := by simpa [one] using e2
  have e3 : u3 = .int .i64 a3 := by simpa [one] using e3
  have e4 : u4 = .int .i64 a4 := by simpa [one] using e4
  have e5 : u5 = .int .i64 a5 := by simpa [one] using e5
  have e6 : u6 = .int .i64 a6 := by simpa [one] using e6
  have e7 : u7 = .int .i64 a7 := by simpa [one] using e7
  have e8 : u8 = .int .i64 a8 := by simpa [one] using e8
  have e9 : u9 = .int .i64 a9 := by simpa [one] using e9
  have e10 : u10 = a10.1 := by simpa [fst1] using e10
  have e11 : u11 = .bool a11 := by simpa [one] using e11
  have e12 : u12 = .int .i64 a12 := by simpa [one] using e12
  have e13 : u13 = .slice A13 n13 c13 := by simpa using e13
  have e14 : u14 = .slice A14 n14 c14 := by simpa using e14
  refine ⟨⟨a0, a1, a2, a3, a4, a5, a6, a7, a8, a9, A10, c10, a10.2, a11, a12, A13, n13, c13, A14, n14, c14⟩, ?_, ⟨A10, c10, rfl, hc10, hm10, r10⟩⟩
  rw [e0, e1, e2, e3, e4, e5, e6, e7, e8, e9, e10, e11, e12, e13, e14, q10]
  rfl
set_option maxRecDepth 100000 in
theorem inv_qw : ∀ n cs x, DataW.trod enc Try.prog W base spare held n 47 cs = some x → ∃ a : Qw, cs = qwEl.cells a ∧ ((∀ p ∈ qwEl.cons a, Sl W p.1 p.2) ∧ (Lit.int .i64 a.what).wf = true) := by
  intro n cs x hf
  obtain ⟨m, hlen, hf⟩ := inv_struct Try.underlying47 hf
  have hct : Try.prog.cellsOf 47 = 17 := by kernel_rfl
  rw [hct] at hlen
  obtain ⟨y0, k0⟩ := hf 0 _ rfl
  obtain ⟨y1, k1⟩ := hf 1 _ rfl
  obtain ⟨y2, k2⟩ := hf 2 _ rfl
  replace k0 : DataW.trod enc Try.prog W base spare held m 3 ((cs.drop 0).take (Try.prog.cellsOf 3)) = some y0 := k0
  replace k1 : DataW.trod enc Try.prog W base spare held m 29 ((cs.drop 1).take (Try.prog.cellsOf 29)) = some y1 := k1
  replace k2 : DataW.trod enc Try.prog W base spare held m 34 ((cs.drop 2).take (Try.prog.cellsOf 34)) = some y2 := k2
  have ci : Try.prog.cellsOf 3 = 1 := by kernel_rfl
  have cB : Try.prog.cellsOf 29 = 1 := by kernel_rfl
  have cM : Try.prog.cellsOf 34 = 15 := by kernel_rfl
  rw [ci] at k0
  rw [cB] at k1
  rw [cM] at k2
  match cs, hlen with
  | u0 :: u1 :: l, hl =>
    have hl : l.length = 15 := by simpa using hl
    obtain ⟨a0, e0, s0⟩ := inv_int Try.underlying3 _ _ _ k0
    obtain ⟨a1, e1, s1⟩ := inv_slice Try.underlying29 Try.underlying5 (by kernel_rfl) _ _ _ k1
    have hk2 : ((u0 :: u1 :: l).drop 2).take 15 = l := by simp [← hl]
    rw [hk2] at k2
    obtain ⟨a2, e2, s2⟩ := inv_mg _ _ _ k2
    obtain ⟨A1, c1, q1, hc1, hm1, r1⟩ := s1
    have e0 : u0 = .int .i64 a0 := by simpa [one] using e0
    have e1 : u1 = a1.1 := by simpa [fst1] using e1
    refine ⟨⟨a0, A1, c1, a1.2, a2⟩, ?_, fun p hp => ?_, s0⟩
    · rw [e0, e1, e2, q1]; rfl
    · rcases List.mem_cons.1 hp with rfl | hp
      · exact ⟨A1, c1, rfl, hc1, hm1, r1⟩
      · rw [List.mem_singleton.1 hp]; exact s2
theorem open_qws {r : Reach} {b0 : Nat} {v : Value} {d : DataW H} {p : List MemPlace} (hval : Value.okWide Try.prog W r b0 42 v) (h : DataW.Trod enc Try.prog W base spare held 42 v d p) :
    ∃ (A : Option Addr) (c : Nat) (xs : List Qw), v = .slice A xs.length c ∧ xs.length ≤ c ∧ c ≤ maxLen ∧ Els qwEl W A xs := by
  obtain ⟨A, c, l, hv, h1, h2, _, h3, h4, h5⟩ := open_arg (sz := 17) qwEl.cells _ Try.underlying42 (by kernel_rfl) qwEl.len inv_qw hval h
  exact ⟨A, c, l, hv, h1, h2, ⟨h3, fun a ha => (h4 a ha).1⟩⟩
end
end Go.Proofs.Ytelmndpelgbboaa
