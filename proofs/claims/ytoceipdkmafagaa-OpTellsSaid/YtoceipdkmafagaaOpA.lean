import Derived.Test.YtoceipdkmafagaaPlain1
import Derived.Test.YtoceipdkmafagaaWires1
/-! op: what is a value -/
namespace Go.Proofs.Ytoceipdkmafagaa
open Go.RowKit Go.Cov
def plainN (t n : Int) (m : Nat) : Bool := decide ((t = 1 ∨ t = 2) ∧ m = 0 ∨ t = 3 ∧ n = 0 ∧ m ≤ 256 ∨ t = 0 ∧ n = 0 ∧ m = 0)
theorem plainN_of (v : VD) : plainN v.1 v.2.1 v.2.2.length = plainV v := rfl

set_option maxHeartbeats 2000000 in
theorem plain_any (t n : Int) (A : Option Addr) (m c : Nat) (w : World) : Calls Try.prog 30 #[.agg #[.int .i64 t, .int .i64 n, .slice A m c]] w fun e w' => e = .returned (.bool (plainN t n m)) ∧ Below w.heap.size w w' := by
  have b0 := below_alloc w (.cells #[.int .i64 t, .int .i64 n, .slice A m c] 29)
  have jm : ((m : Int) == 0) = decide (m = 0) := by by_cases h : m = 0 <;> simp [h]
  have jl : decide ((m : Int) ≤ 256) = decide (m ≤ 256) := by by_cases h : m ≤ 256 <;> simp [h] <;> omega
  have jn : (n == 0) = decide (n = 0) := rfl
  by_cases t1 : t = 1
  · subst t1
    go_enter Try.func30, Try.ntmps30
    go_wp2_with fail
    go_ret
    exact ⟨by simp [plainN], b0⟩
  by_cases t2 : t = 2
  · subst t2
    go_enter Try.func30, Try.ntmps30
    go_wp2_with fail
    go_ret
    exact ⟨by simp [plainN], b0⟩
  have k1 : (t == 1) = false := by simp [t1]
  have k2 : (t == 2) = false := by simp [t2]
  by_cases t3 : t = 3
  · subst t3
    by_cases n0 : n = 0
    · subst n0
      go_enter Try.func30, Try.ntmps30
      go_wp2_with fail
      go_ret
      exact ⟨by simp [plainN], b0⟩
    · have j0 : (n == 0) = false := by simp [n0]
      go_enter Try.func30, Try.ntmps30
      go_wp2_with fail
      go_ret
      exact ⟨by simp [plainN, n0], b0⟩
  have k3 : (t == 3) = false := by simp [t3]
  by_cases t0 : t = 0
  · subst t0
    by_cases n0 : n = 0
    · subst n0
      go_enter Try.func30, Try.ntmps30
      go_wp2_with fail
      go_ret
      exact ⟨by simp [plainN], b0⟩
    · have j0 : (n == 0) = false := by simp [n0]
      go_enter Try.func30, Try.ntmps30
      go_wp2_with fail
      go_ret
      exact ⟨by simp [plainN, n0], b0⟩
  · have k0 : (t == 0) = false := by simp [t0]
    go_enter Try.func30, Try.ntmps30
    go_wp2_with fail
    go_ret
    exact ⟨by simp [plainN, t0, t1, t2, t3], b0⟩

set_option maxHeartbeats 2000000 in
theorem rplain_any (t n : Int) (A : Option Addr) (m c : Nat) (w : World) : Calls Try.prog 44 #[.agg #[.int .i64 t, .int .i64 n, .slice A m c]] w fun e w' => e = .returned (.bool (plainN t n m)) ∧ Below w.heap.size w w' := by
  have b0 := below_alloc w (.cells #[.int .i64 t, .int .i64 n, .slice A m c] 29)
  have jm : ((m : Int) == 0) = decide (m = 0) := by by_cases h : m = 0 <;> simp [h]
  have jl : decide ((m : Int) ≤ 256) = decide (m ≤ 256) := by by_cases h : m ≤ 256 <;> simp [h] <;> omega
  have jn : (n == 0) = decide (n = 0) := rfl
  by_cases t1 : t = 1
  · subst t1
    go_enter Try.func44, Try.ntmps44
    go_wp2_with fail
    go_ret
    exact ⟨by simp [plainN], b0⟩
  by_cases t2 : t = 2
  · subst t2
    go_enter Try.func44, Try.ntmps44
    go_wp2_with fail
    go_ret
    exact ⟨by simp [plainN], b0⟩
  have k1 : (t == 1) = false := by simp [t1]
  have k2 : (t == 2) = false := by simp [t2]
  by_cases t3 : t = 3
  · subst t3
    by_cases n0 : n = 0
    · subst n0
      go_enter Try.func44, Try.ntmps44
      go_wp2_with fail
      go_ret
      exact ⟨by simp [plainN], b0⟩
    · have j0 : (n == 0) = false := by simp [n0]
      go_enter Try.func44, Try.ntmps44
      go_wp2_with fail
      go_ret
      exact ⟨by simp [plainN, n0], b0⟩
  have k3 : (t == 3) = false := by simp [t3]
  by_cases t0 : t = 0
  · subst t0
    by_cases n0 : n = 0
    · subst n0
      go_enter Try.func44, Try.ntmps44
      go_wp2_with fail
      go_ret
      exact ⟨by simp [plainN], b0⟩
    · have j0 : (n == 0) = false := by simp [n0]
      go_enter Try.func44, Try.ntmps44
      go_wp2_with fail
      go_ret
      exact ⟨by simp [plainN, n0], b0⟩
  · have k0 : (t == 0) = false := by simp [t0]
    go_enter Try.func44, Try.ntmps44
    go_wp2_with fail
    go_ret
    exact ⟨by simp [plainN, t0, t1, t2, t3], b0⟩

theorem argfun_any (t n : Int) (A : Option Addr) (m c : Nat) (w : World) : Calls Try.prog 29 #[.agg #[.int .i64 t, .int .i64 n, .slice A m c]] w fun e w' => e = .returned (.bool (!(decide (t ≠ 0) && plainN t n m))) ∧ Below w.heap.size w w' := by
  have b0 := below_alloc w (.cells #[.int .i64 t, .int .i64 n, .slice A m c] 29)
  by_cases t0 : t = 0
  · subst t0
    go_enter Try.func29, Try.ntmps29
    go_wp2_with fail
    go_ret
    exact ⟨by simp, b0⟩
  · have k0 : (t == 0) = false := by simp [t0]
    go_enter Try.func29, Try.ntmps29
    go_wp2_with fail
    refine (plain_any t n A m c _).mono ?_
    rintro e w2 ⟨rfl, hb⟩
    go_wp2_with fail
    go_ret
    exact ⟨by simp [t0], below_step b0 hb⟩
end Go.Proofs.Ytoceipdkmafagaa