import Derived.Test.YtlekoeddcjjjdaaStoreC
namespace Go.Proofs.Ytlekoeddcjjjdaa
open Go.RowKit Go.Cov Go.Lib
/-- how much a store has -/
def sumP : List (List UInt8 × List UInt8) → Nat
  | [] => 0
  | a :: l => a.1.length + a.2.length + sumP l
def sizeP (l : List (List UInt8 × List UInt8)) : Nat := 8 * l.length + sumP l
theorem sumP_app (l m : List (List UInt8 × List UInt8)) : sumP (l ++ m) = sumP l + sumP m := by
  induction l with
  | nil => simp [sumP]
  | cons a l ih => rw [List.cons_append, sumP, sumP, ih]; omega
theorem sumP_step {l : List (List UInt8 × List UInt8)} {k : Nat} (h : k < l.length) : sumP (l.take (k + 1)) = sumP (l.take k) + (l[k].1.length + l[k].2.length) := by
  rw [List.take_add_one, List.getElem?_eq_getElem h, sumP_app]
  simp [sumP]
theorem sumP_take (l : List (List UInt8 × List UInt8)) (k : Nat) : sumP (l.take k) ≤ sumP l := by
  conv => rhs; rw [← List.take_append_drop k l, sumP_app]
  omega
set_option maxRecDepth 100000 in
theorem size_pairs {A : Option Addr} {c : Nat} {xs : List Pr} {w : World} (h : Els prEl w A xs) (hs : sizeP (xs.map Pr.data) ≤ 1000000000000000) :
    Calls Try.prog 38 #[.slice A xs.length c] w fun e w' => e = .returned (.int .i64 (sizeP (xs.map Pr.data) : Nat)) ∧ Below w.heap.size w w' := by
  unfold sizeP at hs ⊢
  rw [List.length_map] at hs ⊢
  have e1 : IntKind.i64.wrap (8 * (xs.length : Int)) = 8 * (xs.length : Int) := wrap_of _ (by omega) (by omega)
  have SM := fun k => sumP_take (xs.map Pr.data) k
  go_enter Try.func38, Try.ntmps38
  go_wp2_with fail
  go_loopw [3, 11] (fun s i W => ∃ k : Nat, k ≤ xs.length ∧ i = .int .i64 k ∧ s = .int .i64 (8 * (xs.length : Int) + (sumP ((xs.map Pr.data).take k) : Nat)) ∧ Below w.heap.size w W) (fun _ i _ => xs.length - (intOf i).toNat)
  case atStart => exact ⟨0, by omega, rfl, by simp [sumP], Below.refl _ _⟩
  case round =>
    obtain ⟨k, hk, rfl, rfl, hb⟩ := hrel
    by_cases hlt : k < xs.length
    · obtain ⟨ad, rfl, h1, h2, _, _⟩ := pr_at (h.below hb) k hlt
      have hst := sumP_step (l := xs.map Pr.data) (k := k) (by simpa using hlt)
      have S1 := SM k
      have S2 := SM (k + 1)
      rw [List.getElem_map] at hst
      generalize hx : xs[k] = x at h1 h2 hst
      clear hx
      rw [show (Pr.data x).1 = x.k from rfl, show (Pr.data x).2 = x.v from rfl] at hst
      unfold Pr.key at h1
      unfold Pr.val at h2
      generalize hu : sumP ((xs.map Pr.data).take k) = u at hst S1 ⊢
      generalize hu' : sumP ((xs.map Pr.data).take (k + 1)) = u' at hst S2
      generalize sumP (xs.map Pr.data) = U at hs S1 S2
      have i1 : (k : Int) < xs.length := by omega
      have e2 : IntKind.i64.wrap ((x.k.length : Int) + x.v.length) = (x.k.length : Int) + x.v.length := wrap_of _ (by omega) (by omega)
      have e3 : IntKind.i64.wrap (8 * (xs.length : Int) + (u : Nat) + ((x.k.length : Int) + x.v.length)) = 8 * (xs.length : Int) + (u : Nat) + ((x.k.length : Int) + x.v.length) := wrap_of _ (by omega) (by omega)
      have HST := hid hst
      have HU' := hid hu'
      clear hu hu'
      have hz : xs.length < 140737488351236 := by omega
      clear hst S1 S2 SM hs e1
      go_wp2_with fail
      go_roundw
      case rel => 
        refine ⟨k + 1, by omega, by go_num, ?_, below_step hb (below_alloc _ _)⟩
        rw [HU'.out, HST.out]
        refine congrArg (Value.int .i64) ?_
        omega
      case measure => simp [intOf]; omega
    · obtain rfl : k = xs.length := by omega
      rw [List.take_of_length_le (by simp)]
      go_wp2_with fail
      go_ret
      exact ⟨by simp, hb⟩
end Go.Proofs.Ytlekoeddcjjjdaa
