import Derived.Test.YteioiebkielaeaaLists
import Derived.Test.YteioiebkielaeaaRows
import Derived.Outline
import Derived.WalkSpells
import Derived.Laws.EntriesVeiled
import Derived.Deep.QuietTactic
import Derived.BigQuiet
import Derived.Deep.LoopGhost
import Derived.StillTailTactics
namespace Go.Proofs.Yteioiebkielaeaa
open Go.RowKit Go.Cov
set_option maxRecDepth 100000 in
theorem of_plus (w : World) : Calls Try.prog 19 #[.string ⟨#[43]⟩] w fun e w' => e = .returned (.agg #[.func (.func 23) #[] #[], .nilFunc, .nilFunc, .nilFunc]) ∧ Below w.heap.size w w' := by
  go_enter Try.func19, Try.ntmps19
  go_wp2
  exact bodyPost_ret (v := .agg #[.func (.func 23) #[] #[], .nilFunc, .nilFunc, .nilFunc]) (by simp [results, Try.results19, go_sem]) rfl ⟨rfl, below_alloc w _⟩
set_option maxRecDepth 100000 in
theorem of_minus (w : World) : Calls Try.prog 19 #[.string ⟨#[45]⟩] w fun e w' => e = .returned (.agg #[.func (.func 25) #[] #[], .nilFunc, .nilFunc, .nilFunc]) ∧ Below w.heap.size w w' := by
  go_enter Try.func19, Try.ntmps19
  go_wp2
  exact bodyPost_ret (v := .agg #[.func (.func 25) #[] #[], .nilFunc, .nilFunc, .nilFunc]) (by simp [results, Try.results19, go_sem]) rfl ⟨rfl, below_alloc w _⟩
set_option maxRecDepth 100000 in
theorem of_star (w : World) : Calls Try.prog 19 #[.string ⟨#[42]⟩] w fun e w' => e = .returned (.agg #[.func (.func 26) #[] #[], .nilFunc, .nilFunc, .nilFunc]) ∧ Below w.heap.size w w' := by
  go_enter Try.func19, Try.ntmps19
  go_wp2
  exact bodyPost_ret (v := .agg #[.func (.func 26) #[] #[], .nilFunc, .nilFunc, .nilFunc]) (by simp [results, Try.results19, go_sem]) rfl ⟨rfl, below_alloc w _⟩
set_option maxRecDepth 100000 in
theorem of_lss (w : World) : Calls Try.prog 19 #[.string ⟨#[60]⟩] w fun e w' => e = .returned (.agg #[.nilFunc, .func (.func 30) #[] #[], .nilFunc, .nilFunc]) ∧ Below w.heap.size w w' := by
  go_enter Try.func19, Try.ntmps19
  go_wp2
  exact bodyPost_ret (v := .agg #[.nilFunc, .func (.func 30) #[] #[], .nilFunc, .nilFunc]) (by simp [results, Try.results19, go_sem]) rfl ⟨rfl, below_alloc w _⟩
set_option maxRecDepth 100000 in
theorem of_leq (w : World) : Calls Try.prog 19 #[.string ⟨#[60, 61]⟩] w fun e w' => e = .returned (.agg #[.nilFunc, .func (.func 31) #[] #[], .nilFunc, .nilFunc]) ∧ Below w.heap.size w w' := by
  go_enter Try.func19, Try.ntmps19
  go_wp2
  exact bodyPost_ret (v := .agg #[.nilFunc, .func (.func 31) #[] #[], .nilFunc, .nilFunc]) (by simp [results, Try.results19, go_sem]) rfl ⟨rfl, below_alloc w _⟩
set_option maxRecDepth 100000 in
theorem of_gtr (w : World) : Calls Try.prog 19 #[.string ⟨#[62]⟩] w fun e w' => e = .returned (.agg #[.nilFunc, .func (.func 32) #[] #[], .nilFunc, .nilFunc]) ∧ Below w.heap.size w w' := by
  go_enter Try.func19, Try.ntmps19
  go_wp2
  exact bodyPost_ret (v := .agg #[.nilFunc, .func (.func 32) #[] #[], .nilFunc, .nilFunc]) (by simp [results, Try.results19, go_sem]) rfl ⟨rfl, below_alloc w _⟩
set_option maxRecDepth 100000 in
theorem of_geq (w : World) : Calls Try.prog 19 #[.string ⟨#[62, 61]⟩] w fun e w' => e = .returned (.agg #[.nilFunc, .func (.func 33) #[] #[], .nilFunc, .nilFunc]) ∧ Below w.heap.size w w' := by
  go_enter Try.func19, Try.ntmps19
  go_wp2
  exact bodyPost_ret (v := .agg #[.nilFunc, .func (.func 33) #[] #[], .nilFunc, .nilFunc]) (by simp [results, Try.results19, go_sem]) rfl ⟨rfl, below_alloc w _⟩
set_option maxRecDepth 100000 in
theorem of_eql (w : World) : Calls Try.prog 19 #[.string ⟨#[61, 61]⟩] w fun e w' => e = .returned (.agg #[.nilFunc, .func (.func 34) #[] #[], .func (.func 35) #[] #[], .func (.func 36) #[] #[]]) ∧ Below w.heap.size w w' := by
  go_enter Try.func19, Try.ntmps19
  go_wp2
  exact bodyPost_ret (v := .agg #[.nilFunc, .func (.func 34) #[] #[], .func (.func 35) #[] #[], .func (.func 36) #[] #[]]) (by simp [results, Try.results19, go_sem]) rfl ⟨rfl, below_alloc w _⟩
set_option maxRecDepth 100000 in
theorem of_neq (w : World) : Calls Try.prog 19 #[.string ⟨#[33, 61]⟩] w fun e w' => e = .returned (.agg #[.nilFunc, .func (.func 37) #[] #[], .func (.func 38) #[] #[], .func (.func 39) #[] #[]]) ∧ Below w.heap.size w w' := by
  go_enter Try.func19, Try.ntmps19
  go_wp2
  exact bodyPost_ret (v := .agg #[.nilFunc, .func (.func 37) #[] #[], .func (.func 38) #[] #[], .func (.func 39) #[] #[]]) (by simp [results, Try.results19, go_sem]) rfl ⟨rfl, below_alloc w _⟩
set_option maxRecDepth 100000 in
theorem of_and (w : World) : Calls Try.prog 19 #[.string ⟨#[38, 38]⟩] w fun e w' => e = .returned (.agg #[.nilFunc, .nilFunc, .func (.func 40) #[] #[], .nilFunc]) ∧ Below w.heap.size w w' := by
  go_enter Try.func19, Try.ntmps19
  go_wp2
  exact bodyPost_ret (v := .agg #[.nilFunc, .nilFunc, .func (.func 40) #[] #[], .nilFunc]) (by simp [results, Try.results19, go_sem]) rfl ⟨rfl, below_alloc w _⟩
set_option maxRecDepth 100000 in
theorem of_or (w : World) : Calls Try.prog 19 #[.string ⟨#[124, 124]⟩] w fun e w' => e = .returned (.agg #[.nilFunc, .nilFunc, .func (.func 41) #[] #[], .nilFunc]) ∧ Below w.heap.size w w' := by
  go_enter Try.func19, Try.ntmps19
  go_wp2
  exact bodyPost_ret (v := .agg #[.nilFunc, .nilFunc, .func (.func 41) #[] #[], .nilFunc]) (by simp [results, Try.results19, go_sem]) rfl ⟨rfl, below_alloc w _⟩
set_option maxRecDepth 100000 in
theorem of_quo (w : World) : Calls Try.prog 19 #[.string ⟨#[47]⟩] w fun e w' => e = .returned (.agg #[.func (.func 45) #[] #[.pointer (some ⟨w.heap.size + 1, 0, none⟩)], .nilFunc, .nilFunc, .nilFunc]) ∧ Below w.heap.size w w' ∧ w.heap.size + 1 < w'.heap.size ∧ w'.cell? ⟨w.heap.size + 1, 0, none⟩ = some (.func (.func 28) #[] #[]) := by
  have hmf : ∀ (fn : Fn) (first cap : Array Value) (w : World), (Instr.makeFunc fn first cap).run Try.prog w = .ok (.func fn first cap) w := fun _ _ _ _ => rfl
  go_enter Try.func19, Try.ntmps19
  go_wp2
  exact bodyPost_ret (v := .agg #[.func (.func 45) #[] #[.pointer (some ⟨w.heap.size + 1, 0, none⟩)], .nilFunc, .nilFunc, .nilFunc]) (by simp [results, Try.results19, go_sem]) rfl ⟨rfl, ((Below.refl _ _).alloc (Nat.le_refl _) _).alloc (by simp) _, by simp, (by simp)⟩
set_option maxRecDepth 100000 in
theorem of_rem (w : World) : Calls Try.prog 19 #[.string ⟨#[37]⟩] w fun e w' => e = .returned (.agg #[.func (.func 45) #[] #[.pointer (some ⟨w.heap.size + 1, 0, none⟩)], .nilFunc, .nilFunc, .nilFunc]) ∧ Below w.heap.size w w' ∧ w.heap.size + 1 < w'.heap.size ∧ w'.cell? ⟨w.heap.size + 1, 0, none⟩ = some (.func (.func 29) #[] #[]) := by
  have hmf : ∀ (fn : Fn) (first cap : Array Value) (w : World), (Instr.makeFunc fn first cap).run Try.prog w = .ok (.func fn first cap) w := fun _ _ _ _ => rfl
  go_enter Try.func19, Try.ntmps19
  go_wp2
  exact bodyPost_ret (v := .agg #[.func (.func 45) #[] #[.pointer (some ⟨w.heap.size + 1, 0, none⟩)], .nilFunc, .nilFunc, .nilFunc]) (by simp [results, Try.results19, go_sem]) rfl ⟨rfl, ((Below.refl _ _).alloc (Nat.le_refl _) _).alloc (by simp) _, by simp, (by simp)⟩
end Go.Proofs.Yteioiebkielaeaa
