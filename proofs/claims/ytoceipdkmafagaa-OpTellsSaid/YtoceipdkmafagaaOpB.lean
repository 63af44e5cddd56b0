import Derived.Test.YtoceipdkmafagaaOpA
import Derived.Test.YtoceipdkmafagaaPlain1
/-! op: what is right -/
namespace Go.Proofs.Ytoceipdkmafagaa
open Go.RowKit Go.Cov
theorem notall (xs : List En) (k : Nat) (hk : k < xs.length) (hb : argOk xs[k].data = false) : (!((xs.map En.data).all argOk)) = true := by
  have : (xs.map En.data).all argOk = false := by
    rw [List.all_eq_false]
    exact ⟨xs[k].data, List.mem_map_of_mem (List.getElem_mem hk), by rw [hb]; simp⟩
  rw [this]; rfl
theorem allok (xs : List En) (hb : ∀ k, (hk : k < xs.length) → argOk xs[k].data = true) : (xs.map En.data).all argOk = true := by
  rw [List.all_eq_true]
  intro x hx
  obtain ⟨a, ha, rfl⟩ := List.mem_map.1 hx
  obtain ⟨k, hk, rfl⟩ := List.getElem_of_mem ha
  exact hb k hk
set_option maxHeartbeats 1600000 in
theorem index_any {A : Option Addr} {c : Nat} {xs : List En} {w : World} (h : Els enEl w A xs) (hm : xs.length ≤ maxLen) :
    Calls Try.prog 54 #[.slice A xs.length c, .func (.func 29) #[] #[]] w fun e w' => ∃ r : Int, e = .returned (.int .i64 r) ∧ decide (0 ≤ r) = (!((xs.map En.data).all argOk)) ∧ Below w.heap.size w w' := by
  have hm2 : xs.length ≤ 9223372036854775807 := hm
  go_enter Try.func54, Try.ntmps54
  go_wp2_with fail
  go_loopw [8] (fun i W => ∃ k : Nat, k ≤ xs.length ∧ i = .int .i64 k ∧ (∀ j, (hj : j < xs.length) → j < k → argOk xs[j].data = true) ∧ Below w.heap.size w W) (fun i _ => xs.length - (RowKit.intOf i).toNat)
  case atStart => exact ⟨0, by omega, rfl, fun j _ hj => by omega, Below.refl _ _⟩
  case round =>
    obtain ⟨k, hk, rfl, hall, hb⟩ := hrel
    by_cases hlt : k < xs.length
    · have i1 : (k : Int) < xs.length := by omega
      obtain ⟨ad, rfl, x0, x1, x2, rx⟩ := en_at (h.below hb) k hlt
      have hd : (!(decide (xs[k].c ≠ 0) && plainN xs[k].c xs[k].r xs[k].op.length)) = !(argOk xs[k].data) := rfl
      cases hz : argOk xs[k].data with
      | false =>
        rw [hz] at hd
        go_wp2_with fail
        refine (argfun_any _ _ _ _ _ _).mono ?_
        rintro e w2 ⟨rfl, hb2⟩
        rw [hd]
        go_wp2_with fail
        go_ret
        exact ⟨_, rfl, by rw [notall xs k hlt hz]; simp, below_step hb hb2⟩
      | true =>
        rw [hz] at hd
        go_wp2_with fail
        refine (argfun_any _ _ _ _ _ _).mono ?_
        rintro e w2 ⟨rfl, hb2⟩
        rw [hd]
        go_wp2_with fail
        go_roundw
        case rel => exact ⟨k + 1, by omega, by go_num, fun j hj hj2 => by
          by_cases hjk : j = k
          · subst hjk; exact hz
          · exact hall j hj (by omega), below_step hb hb2⟩
        case measure => simp [RowKit.intOf]; omega
    · obtain rfl : k = xs.length := by omega
      go_wp2_with fail
      go_ret
      exact ⟨_, rfl, by rw [allok xs (fun j hj => hall j hj hj)]; rfl, hb⟩
theorem contains_any {A : Option Addr} {c : Nat} {xs : List En} {w : World} (h : Els enEl w A xs) (hm : xs.length ≤ maxLen) :
    Calls Try.prog 28 #[.slice A xs.length c, .func (.func 29) #[] #[]] w fun e w' => e = .returned (.bool (!((xs.map En.data).all argOk))) ∧ Below w.heap.size w w' := by
  go_enter Try.func28, Try.ntmps28
  go_wp2_with fail
  refine (index_any h hm).mono ?_
  rintro e w2 ⟨r, rfl, hr, hb2⟩
  go_wp2_with fail
  go_ret
  exact ⟨by simp, hb2⟩
end Go.Proofs.Ytoceipdkmafagaa
