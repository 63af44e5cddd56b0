/-
  MailPlays: calls on a box of any room, one behind the other, answer as the document's box does: the law answers true whatever comes in, and leaves its arguments as they were. No condition.
-/
import Derived.Test.YtfeclopdagbngaaMailPlays
import Derived.Test.YtfeclopdagbngaaOpen
namespace Go.Proofs.Ytfeclopdagbngaa.mailPlays
open Go.ChangeShapes Go.WideShapes Go.ChangeAt Go.RowKit Go.Cov Go.Deep
open Go.ChangeMaps (open_string shut_string)
set_option linter.unusedVariables false

theorem own : ownKnob Try.prog.godebug = none := by kernel_rfl
theorem laidOut : laidOutB Try.prog = true := by kernel_rfl
theorem inv_op {H : Type} {enc : TypeId × Value → H} {W : World} {base : Nat} {spare : Nat → Bool} {held : Bool} : ∀ n cs x, DataW.trod enc Try.prog W base spare held n 38 cs = some x → ∃ a, cs = opc a ∧ True := by
  intro n cs x h
  obtain ⟨m, hlen, hf⟩ := inv_struct Try.underlying38 h
  rw [show Try.prog.cellsOf 38 = 2 by kernel_rfl] at hlen
  match cs, hlen with
  | [c0, c1], _ =>
    obtain ⟨y0, hy0⟩ := hf 0 _ rfl
    obtain ⟨y1, hy1⟩ := hf 1 _ rfl
    have e3 : Try.prog.cellsOf 3 = 1 := by kernel_rfl
    have e2 : Try.prog.cellsOf 2 = 1 := by kernel_rfl
    simp [e3] at hy0
    simp [e2] at hy1
    obtain ⟨a, ha, _⟩ := DataW.trod_int Try.underlying3 hy0
    obtain ⟨b, hb, _⟩ := DataW.trod_int Try.underlying2 hy1
    simp at ha hb
    exact ⟨(a, b), by simp [opc, ha, hb], trivial⟩
set_option maxRecDepth 100000 in
theorem lifted (os : Os) (started : os.Started) (H : Type) (enc : TypeId × Value → H) :
    ReturnsInHanded {} Try.checked os 4 .any (Rows.mailPlaysSpec.pre6 enc Try.prog Try.f4 Rows.mailPlaysRow.domain false) (Rows.mailPlaysSpec.post enc Try.prog Try.f4 false true false false) := by
  refine returnsInHanded_of_change_sized (C := Try.checked) own started (by kernel_rfl) Try.func4
    (ChangeSpec.witness6 (enc := enc) (C := Try.checked) false ⟨#[], #[.int .i64 0, .slice none 0 0], []⟩ 8 (by kernel_rfl) (by kernel_rfl) (by kernel_rfl) (by kernel_rfl)) ?_
  intro W base args ds gs before hval0 hW hcnd hsz0 hholds
  have hval : ∀ (j : Nat) t v, Try.f4.params[j]? = some t → args[j]? = some v → Value.okWide Try.prog W .any base t v := hval0
  have hsz : (DataW.weightsEach Try.prog (Try.f4.params.toList ++ Rows.mailPlaysSpec.plain.varTypes Try.prog) (ds ++ gs)).all (· ≤ reachBytes) = true := hsz0
  have hW' := hW
  obtain ⟨p, q, hA0, hV, rfl, hfz, hnd⟩ := hW
  have hA : DataW.TrodAll enc Try.prog W 0 (fun _ => true) true Try.f4.params.toList args.toList ds p := hA0
  rw [Try.params4] at hA hval hsz
  obtain ⟨v0, vs0, d0, ds0, p0, q0, hargs, rfl, rfl, h0, r0⟩ := trodAll_cons hA
  obtain ⟨v1, vs1, d1, ds1, p1, q1, rfl, rfl, rfl, h1, r1⟩ := trodAll_cons r0
  obtain ⟨rfl, rfl, rfl⟩ := trodAll_nil r1
  obtain rfl : args = #[v0, v1] := by cases args; simp_all
  obtain ⟨rfl, rfl⟩ := trodVars_none hV
  have k0 := h0
  have lt0 : ∀ x ∈ p0, x.block < W.heap.size := by obtain ⟨m, hm⟩ := k0; exact DataW.trod_lt m _ _ _ hm
  have k1 := h1
  have lt1 : ∀ x ∈ p1, x.block < W.heap.size := by obtain ⟨m, hm⟩ := k1; exact DataW.trod_lt m _ _ _ hm
  obtain ⟨a0, e0, ed0, ep0, wf0⟩ := open_int Try.underlying3 (hval 0 3 v0 rfl rfl) h0
  subst e0
  obtain ⟨A1, c1, l1, e1, hlc1, hcm1, hn1, hr1, hq1, hd1⟩ := open_arg (sz := 2) (opc) _ Try.underlying32 (by kernel_rfl) (fun _ => rfl) (inv_op) (hval 1 32 v1 rfl rfl) h1
  subst e1
  have hz1 : l1.length * Try.prog.bytesOf 38 ≤ reachBytes := by
    rcases hd1 with ⟨_, hl⟩ | ⟨el, sp, hd, hel, _⟩
    · subst hl; simp
    · subst hd
      have := sized_slice hsz (j := 1) (t := 32) (e := 38) rfl rfl Try.underlying32
      exact Nat.le_trans (Nat.mul_le_mul_right _ (by omega)) this
  clear hA0 hval0
  refine (plays_law a0 A1 c1 l1 W hr1).mono fun e W' ⟨he, bel⟩ => ?_
  subst he
  exact ⟨_, rfl, _, _, _, [], _, [], hW', trodAll_mk1 (shut_bool Try.underlying4 _), (trodAll_cons_mk (Below.trod laidOut (by kernel_rfl) (of_decide_eq_true (by kernel_rfl)) k0 bel lt0) (trodAll_cons_mk (Below.trod laidOut (by kernel_rfl) (of_decide_eq_true (by kernel_rfl)) k1 bel lt1) trodAll_mk0)), rfl, bel.frame _, fun h => by cases h⟩

theorem over : Rows.mailPlaysRow.holds Try.pinned (OpenSpec.ofChange Rows.mailPlaysSpec) :=
  OpenClaim.holds_of_wide 4 Try.f4 rfl rfl rfl rfl rfl rfl rfl ⟨rfl, rfl, rfl, rfl, rfl⟩ rfl rfl rfl rfl rfl (by kernel_rfl) Try.func4 (by kernel_rfl)
    (of_decide_eq_true (by kernel_rfl)) (by unfold Func.isWrapper; first | (rw [if_pos (by decide +kernel)]; kernel_rfl) | (rw [if_neg (by decide +kernel)]; exact ⟨rfl, rfl⟩))
    (fun os started H enc _ => lifted os started H enc)

theorem proved : Rows.MailPlaysSaid := over
end Go.Proofs.Ytfeclopdagbngaa.mailPlays
