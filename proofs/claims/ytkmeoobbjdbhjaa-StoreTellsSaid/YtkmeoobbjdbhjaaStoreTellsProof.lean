import Derived.Test.YtkmeoobbjdbhjaaStoreTells
import Derived.Test.YtkmeoobbjdbhjaaPlain1
namespace Go.Proofs.Ytkmeoobbjdbhjaa.storeTells
open Go.ChangeShapes Go.WideShapes Go.ChangeAt Go.RowKit Go.Cov Go.Deep
open Go.ChangeMaps (open_string shut_string)
set_option linter.unusedVariables false

theorem own : ownKnob Try.prog.godebug = none := by kernel_rfl
theorem laidOut : laidOutB Try.prog = true := by kernel_rfl
set_option maxRecDepth 100000 in
theorem lifted (os : Os) (started : os.Started) (H : Type) (enc : TypeId × Value → H) :
    ReturnsInHanded {} Try.checked os 7 .any (Rows.storeTellsSpec.pre6 enc Try.prog Try.f7 Rows.storeTellsRow.domain false) (Rows.storeTellsSpec.post enc Try.prog Try.f7 false true false false) := by
  refine returnsInHanded_of_change_sized (C := Try.checked) own started (by kernel_rfl) Try.func7
    (ChangeSpec.witness6 (enc := enc) (C := Try.checked) false ⟨#[], #[.slice none 0 0, .slice none 0 0, .slice none 0 0, .slice none 0 0], []⟩ 8 (by kernel_rfl) (by kernel_rfl) (by kernel_rfl) (by kernel_rfl)) ?_
  intro W base args ds gs before hval0 hW hcnd hsz0 hholds
  have hval : ∀ (j : Nat) t v, Try.f7.params[j]? = some t → args[j]? = some v → Value.okWide Try.prog W .any base t v := hval0
  have hsz : (DataW.weightsEach Try.prog (Try.f7.params.toList ++ Rows.storeTellsSpec.plain.varTypes Try.prog) (ds ++ gs)).all (· ≤ reachBytes) = true := hsz0
  have hW' := hW
  obtain ⟨p, q, hA0, hV, rfl, hfz, hnd⟩ := hW
  have hA : DataW.TrodAll enc Try.prog W 0 (fun _ => true) true Try.f7.params.toList args.toList ds p := hA0
  rw [Try.params7] at hA hval hsz
  obtain ⟨v0, vs0, d0, ds0, p0, q0, hargs, rfl, rfl, h0, r0⟩ := trodAll_cons hA
  obtain ⟨v1, vs1, d1, ds1, p1, q1, rfl, rfl, rfl, h1, r1⟩ := trodAll_cons r0
  obtain ⟨v2, vs2, d2, ds2, p2, q2, rfl, rfl, rfl, h2, r2⟩ := trodAll_cons r1
  obtain ⟨v3, vs3, d3, ds3, p3, q3, rfl, rfl, rfl, h3, r3⟩ := trodAll_cons r2
  obtain ⟨rfl, rfl, rfl⟩ := trodAll_nil r3
  obtain rfl : args = #[v0, v1, v2, v3] := by cases args; simp_all
  obtain ⟨rfl, rfl⟩ := trodVars_none hV
  have k0 := h0
  have lt0 : ∀ x ∈ p0, x.block < W.heap.size := by obtain ⟨m, hm⟩ := k0; exact DataW.trod_lt m _ _ _ hm
  have k1 := h1
  have lt1 : ∀ x ∈ p1, x.block < W.heap.size := by obtain ⟨m, hm⟩ := k1; exact DataW.trod_lt m _ _ _ hm
  have k2 := h2
  have lt2 : ∀ x ∈ p2, x.block < W.heap.size := by obtain ⟨m, hm⟩ := k2; exact DataW.trod_lt m _ _ _ hm
  have k3 := h3
  have lt3 : ∀ x ∈ p3, x.block < W.heap.size := by obtain ⟨m, hm⟩ := k3; exact DataW.trod_lt m _ _ _ hm
  obtain ⟨A0, c0, ls0, e0, hlc0, hcm0, hr0, hd0⟩ := open_pairs Try.underlying22 Try.underlying42 (by kernel_rfl) ⟨rfl, rfl⟩ Try.underlying23 Try.underlying23 ⟨by kernel_rfl, by kernel_rfl⟩ Try.underlying5 (by kernel_rfl) (hval 0 22 v0 rfl rfl) h0
  subst e0
  have hz0 : ls0.length * Try.prog.bytesOf 42 ≤ reachBytes := by
    rcases hd0 with ⟨_, hl⟩ | ⟨el, sp, hd, hel, _⟩
    · subst hl; simp
    · subst hd
      have := sized_slice hsz (j := 0) (t := 22) (e := 42) rfl rfl Try.underlying22
      exact Nat.le_trans (Nat.mul_le_mul_right _ (by omega)) this
  obtain ⟨A1, c1, l1, e1, hlc1, hcm1, hn1, hr1, hq1, hd1⟩ := open_arg (sz := 1) (one byt) _ Try.underlying23 (by kernel_rfl) (fun _ => rfl) (inv_u8 Try.underlying5) (hval 1 23 v1 rfl rfl) h1
  subst e1
  have hz1 : l1.length * Try.prog.bytesOf 5 ≤ reachBytes := by
    rcases hd1 with ⟨_, hl⟩ | ⟨el, sp, hd, hel, _⟩
    · subst hl; simp
    · subst hd
      have := sized_slice hsz (j := 1) (t := 23) (e := 5) rfl rfl Try.underlying23
      exact Nat.le_trans (Nat.mul_le_mul_right _ (by omega)) this
  obtain ⟨A2, c2, l2, e2, hlc2, hcm2, hn2, hr2, hq2, hd2⟩ := open_arg (sz := 1) (one byt) _ Try.underlying23 (by kernel_rfl) (fun _ => rfl) (inv_u8 Try.underlying5) (hval 2 23 v2 rfl rfl) h2
  subst e2
  have hz2 : l2.length * Try.prog.bytesOf 5 ≤ reachBytes := by
    rcases hd2 with ⟨_, hl⟩ | ⟨el, sp, hd, hel, _⟩
    · subst hl; simp
    · subst hd
      have := sized_slice hsz (j := 2) (t := 23) (e := 5) rfl rfl Try.underlying23
      exact Nat.le_trans (Nat.mul_le_mul_right _ (by omega)) this
  obtain ⟨A3, c3, l3, e3, hlc3, hcm3, hn3, hr3, hq3, hd3⟩ := open_arg (sz := 1) (one byt) _ Try.underlying23 (by kernel_rfl) (fun _ => rfl) (inv_u8 Try.underlying5) (hval 3 23 v3 rfl rfl) h3
  subst e3
  have hz3 : l3.length * Try.prog.bytesOf 5 ≤ reachBytes := by
    rcases hd3 with ⟨_, hl⟩ | ⟨el, sp, hd, hel, _⟩
    · subst hl; simp
    · subst hd
      have := sized_slice hsz (j := 3) (t := 23) (e := 5) rfl rfl Try.underlying23
      exact Nat.le_trans (Nat.mul_le_mul_right _ (by omega)) this
  clear hA0 hval0
  refine (tells_law ⟨hr0, hlc0, rfl⟩ (reach48 (by kernel_rfl) hz0) (flat1 byt hr1) (Nat.le_trans (reach1 (by kernel_rfl) hz1) (by omega)) (flat1 byt hr2) (Nat.le_trans (reach1 (by kernel_rfl) hz2) (by omega)) (flat1 byt hr3) hlc3 (Nat.le_trans (reach1 (by kernel_rfl) hz3) (by omega))).mono fun e W' ⟨he, bel⟩ => ?_
  subst he
  exact ⟨_, rfl, _, _, _, [], _, [], hW', trodAll_mk1 (shut_bool Try.underlying4 _), (trodAll_cons_mk (Below.trod laidOut (by kernel_rfl) (of_decide_eq_true (by kernel_rfl)) k0 bel lt0) (trodAll_cons_mk (Below.trod laidOut (by kernel_rfl) (of_decide_eq_true (by kernel_rfl)) k1 bel lt1) (trodAll_cons_mk (Below.trod laidOut (by kernel_rfl) (of_decide_eq_true (by kernel_rfl)) k2 bel lt2) (trodAll_cons_mk (Below.trod laidOut (by kernel_rfl) (of_decide_eq_true (by kernel_rfl)) k3 bel lt3) trodAll_mk0)))), rfl, bel.frame _, fun h => by cases h⟩

theorem over : Rows.storeTellsRow.holds Try.pinned (OpenSpec.ofChange Rows.storeTellsSpec) :=
  OpenClaim.holds_of_wide 7 Try.f7 rfl rfl rfl rfl rfl rfl rfl ⟨rfl, rfl, rfl, rfl, rfl⟩ rfl rfl rfl rfl rfl (by kernel_rfl) Try.func7 (by kernel_rfl)
    (of_decide_eq_true (by kernel_rfl)) (by unfold Func.isWrapper; first | (rw [if_pos (by decide +kernel)]; kernel_rfl) | (rw [if_neg (by decide +kernel)]; exact ⟨rfl, rfl⟩))
    (fun os started H enc _ => lifted os started H enc)

theorem proved : Rows.StoreTellsSaid := over
end Go.Proofs.Ytkmeoobbjdbhjaa.storeTells
