import Derived.Test.YtahehikpbhneeaaWireBack
import Derived.Test.YtahehikpbhneeaaOpen
namespace Go.Proofs.Ytahehikpbhneeaa.wireBack
open Go.ChangeShapes Go.WideShapes Go.ChangeAt Go.RowKit Go.Cov Go.Deep
open Go.ChangeMaps (open_string shut_string)
set_option linter.unusedVariables false

theorem own : ownKnob Try.prog.godebug = none := by kernel_rfl
theorem laidOut : laidOutB Try.prog = true := by kernel_rfl
set_option maxRecDepth 100000 in
theorem lifted (os : Os) (started : os.Started) (H : Type) (enc : TypeId × Value → H) :
    ReturnsInHanded {} Try.checked os 8 .any (Rows.wireBackSpec.pre6 enc Try.prog Try.f8 Rows.wireBackRow.domain false) (Rows.wireBackSpec.post enc Try.prog Try.f8 false true false false) := by
  refine returnsInHanded_of_change_sized (C := Try.checked) own started (by kernel_rfl) Try.func8
    (ChangeSpec.witness6 (enc := enc) (C := Try.checked) false ⟨#[], #[.slice none 0 0, .int .i64 0, .bool false, .slice none 0 0, .slice none 0 0, .slice none 0 0], []⟩ 8 (by kernel_rfl) (by kernel_rfl) (by kernel_rfl) (by kernel_rfl)) ?_
  intro W base args ds gs before hval0 hW hcnd hsz0 hholds
  have hval : ∀ (j : Nat) t v, Try.f8.params[j]? = some t → args[j]? = some v → Value.okWide Try.prog W .any base t v := hval0
  have hsz : (DataW.weightsEach Try.prog (Try.f8.params.toList ++ Rows.wireBackSpec.plain.varTypes Try.prog) (ds ++ gs)).all (· ≤ reachBytes) = true := hsz0
  have hW' := hW
  obtain ⟨p, q, hA0, hV, rfl, hfz, hnd⟩ := hW
  have hA : DataW.TrodAll enc Try.prog W 0 (fun _ => true) true Try.f8.params.toList args.toList ds p := hA0
  rw [Try.params8] at hA hval hsz
  obtain ⟨v0, vs0, d0, ds0, p0, q0, hargs, rfl, rfl, h0, r0⟩ := trodAll_cons hA
  obtain ⟨v1, vs1, d1, ds1, p1, q1, rfl, rfl, rfl, h1, r1⟩ := trodAll_cons r0
  obtain ⟨v2, vs2, d2, ds2, p2, q2, rfl, rfl, rfl, h2, r2⟩ := trodAll_cons r1
  obtain ⟨v3, vs3, d3, ds3, p3, q3, rfl, rfl, rfl, h3, r3⟩ := trodAll_cons r2
  obtain ⟨v4, vs4, d4, ds4, p4, q4, rfl, rfl, rfl, h4, r4⟩ := trodAll_cons r3
  obtain ⟨v5, vs5, d5, ds5, p5, q5, rfl, rfl, rfl, h5, r5⟩ := trodAll_cons r4
  obtain ⟨rfl, rfl, rfl⟩ := trodAll_nil r5
  obtain rfl : args = #[v0, v1, v2, v3, v4, v5] := by cases args; simp_all
  obtain ⟨rfl, rfl⟩ := trodVars_none hV
  have k0 := h0
  have lt0 : ∀ x ∈ p0, x.block < W.heap.size := by obtain ⟨m, hm⟩ := k0; exact DataW.trod_lt m _ _ _ hm
  have k1 := h1
  have lt1 : ∀ x ∈ p1, x.block < W.heap.size := by obtain ⟨m, hm⟩ := k1; exact DataW.trod_lt m _ _ _ hm
  have k2 := h2
  have lt2 : ∀ x ∈ p2, x.block < W.heap.size := by obtain ⟨m, hm⟩ := k2; exact DataW.trod_lt m _ _ _ hm
  have k3 := h3
  have lt3 : ∀ x ∈ p3, x.block < W.heap.size := by obtain ⟨m, hm⟩ := k3; exact DataW.trod_lt m _ _ _ hm
  have k4 := h4
  have lt4 : ∀ x ∈ p4, x.block < W.heap.size := by obtain ⟨m, hm⟩ := k4; exact DataW.trod_lt m _ _ _ hm
  have k5 := h5
  have lt5 : ∀ x ∈ p5, x.block < W.heap.size := by obtain ⟨m, hm⟩ := k5; exact DataW.trod_lt m _ _ _ hm
  obtain ⟨A0, c0, l0, e0, hlc0, hcm0, hn0, hr0, hq0, hd0⟩ := open_arg (sz := 1) (one byt) _ Try.underlying22 (by kernel_rfl) (fun _ => rfl) (inv_u8 Try.underlying5) (hval 0 22 v0 rfl rfl) h0
  subst e0
  have hz0 : l0.length * Try.prog.bytesOf 5 ≤ reachBytes := by
    rcases hd0 with ⟨_, hl⟩ | ⟨el, sp, hd, hel, _⟩
    · subst hl; simp
    · subst hd
      have := sized_slice hsz (j := 0) (t := 22) (e := 5) rfl rfl Try.underlying22
      exact Nat.le_trans (Nat.mul_le_mul_right _ (by omega)) this
  obtain ⟨a1, e1, ed1, ep1, wf1⟩ := open_int Try.underlying2 (hval 1 2 v1 rfl rfl) h1
  subst e1
  obtain ⟨a2, e2, ed2, ep2⟩ := open_bool Try.underlying4 (hval 2 4 v2 rfl rfl) h2
  subst e2
  obtain ⟨A3, c3, l3, e3, hlc3, hcm3, hn3, hr3, hq3, hd3⟩ := open_arg (sz := 1) (one byt) _ Try.underlying22 (by kernel_rfl) (fun _ => rfl) (inv_u8 Try.underlying5) (hval 3 22 v3 rfl rfl) h3
  subst e3
  have hz3 : l3.length * Try.prog.bytesOf 5 ≤ reachBytes := by
    rcases hd3 with ⟨_, hl⟩ | ⟨el, sp, hd, hel, _⟩
    · subst hl; simp
    · subst hd
      have := sized_slice hsz (j := 3) (t := 22) (e := 5) rfl rfl Try.underlying22
      exact Nat.le_trans (Nat.mul_le_mul_right _ (by omega)) this
  obtain ⟨A4, c4, ls4, e4, hlc4, hcm4, hr4, hd4⟩ := open_rows Try.underlying32 (by kernel_rfl) Try.underlying22 Try.underlying5 (by kernel_rfl) (hval 4 32 v4 rfl rfl) h4
  subst e4
  have hz4 : ls4.length * Try.prog.bytesOf 22 ≤ reachBytes := by
    rcases hd4 with ⟨_, hl⟩ | ⟨el, sp, hd, hel, _⟩
    · subst hl; simp
    · subst hd
      have := sized_slice hsz (j := 4) (t := 32) (e := 22) rfl rfl Try.underlying32
      exact Nat.le_trans (Nat.mul_le_mul_right _ (by omega)) this
  obtain ⟨A5, c5, l5, e5, hlc5, hcm5, hn5, hr5, hq5, hd5⟩ := open_arg (sz := 1) (one byt) _ Try.underlying22 (by kernel_rfl) (fun _ => rfl) (inv_u8 Try.underlying5) (hval 5 22 v5 rfl rfl) h5
  subst e5
  have hz5 : l5.length * Try.prog.bytesOf 5 ≤ reachBytes := by
    rcases hd5 with ⟨_, hl⟩ | ⟨el, sp, hd, hel, _⟩
    · subst hl; simp
    · subst hd
      have := sized_slice hsz (j := 5) (t := 22) (e := 5) rfl rfl Try.underlying22
      exact Nat.le_trans (Nat.mul_le_mul_right _ (by omega)) this
  clear hA0 hval0
  refine (back_law (flat1 byt hr0) (flat1 byt hr3) hr4 (reach24 (by kernel_rfl) hz4) (flat1 byt hr5) a1 a2 (wf64 wf1)).mono fun e W' ⟨he, bel⟩ => ?_
  subst he
  exact ⟨_, rfl, _, _, _, [], _, [], hW', trodAll_mk1 (shut_bool Try.underlying4 _), (trodAll_cons_mk (Below.trod laidOut (by kernel_rfl) (of_decide_eq_true (by kernel_rfl)) k0 bel lt0) (trodAll_cons_mk (Below.trod laidOut (by kernel_rfl) (of_decide_eq_true (by kernel_rfl)) k1 bel lt1) (trodAll_cons_mk (Below.trod laidOut (by kernel_rfl) (of_decide_eq_true (by kernel_rfl)) k2 bel lt2) (trodAll_cons_mk (Below.trod laidOut (by kernel_rfl) (of_decide_eq_true (by kernel_rfl)) k3 bel lt3) (trodAll_cons_mk (Below.trod laidOut (by kernel_rfl) (of_decide_eq_true (by kernel_rfl)) k4 bel lt4) (trodAll_cons_mk (Below.trod laidOut (by kernel_rfl) (of_decide_eq_true (by kernel_rfl)) k5 bel lt5) trodAll_mk0)))))), rfl, bel.frame _, fun h => by cases h⟩

theorem over : Rows.wireBackRow.holds Try.pinned (OpenSpec.ofChange Rows.wireBackSpec) :=
  OpenClaim.holds_of_wide 8 Try.f8 rfl rfl rfl rfl rfl rfl rfl ⟨rfl, rfl, rfl, rfl, rfl⟩ rfl rfl rfl rfl rfl (by kernel_rfl) Try.func8 (by kernel_rfl)
    (of_decide_eq_true (by kernel_rfl)) (by unfold Func.isWrapper; first | (rw [if_pos (by decide +kernel)]; kernel_rfl) | (rw [if_neg (by decide +kernel)]; exact ⟨rfl, rfl⟩))
    (fun os started H enc _ => lifted os started H enc)

theorem proved : Rows.WireBackSaid := over
end Go.Proofs.Ytahehikpbhneeaa.wireBack
