import Derived.Test.YtoceipdkmafagaaWireB
namespace Go.Proofs.Ytoceipdkmafagaa
open Go.RowKit Go.Cov
set_option maxHeartbeats 400000 in
theorem num_any {A : Option Addr} {c : Nat} {l : List UInt8} {w : World} (h : Rd w A (l.map byt)) (hc : l.length ≤ c) (hl : l.length ≤ 140737488351236) (a : Int) :
    Calls Try.prog 35 #[.slice A l.length c, .int .i64 a] w fun e w' => e = .returned (.tuple #[.int .i64 (getR l a 8).1, .int .i64 (getR l a 8).2.1, .int .i64 (getR l a 8).2.2]) ∧ w = w' := by
  go_enter Try.func35, Try.ntmps35
  go_wp2_with fail
  refine (get64_any h hc hl a 8 (by omega)).mono ?_
  rintro e w' ⟨rfl, rfl⟩
  go_wp2_with fail
  go_ret3
  exact ⟨rfl, rfl⟩
set_option maxHeartbeats 400000 in
theorem bool_any {A : Option Addr} {c : Nat} {l : List UInt8} {w : World} (h : Rd w A (l.map byt)) (hc : l.length ≤ c) (hl : l.length ≤ 140737488351236) (a : Int) :
    Calls Try.prog 48 #[.slice A l.length c, .int .i64 a] w fun e w' => e = .returned (.tuple #[.bool (boolR l a).1, .int .i64 (boolR l a).2.1, .int .i64 (boolR l a).2.2]) ∧ w = w' := by
  have hg := getint_any h hc hl a 1 (by omega)
  unfold boolR
  revert hg
  generalize getR l a 1 = g
  obtain ⟨x, y, z⟩ := g
  intro hg
  dsimp only at hg
  by_cases hz : z = 0
  · subst hz
    by_cases hx : 1 < x
    · have e : boolOf (x, y, 0) = (false, 0, 12) := by simp [boolOf, hx]
      rw [e]
      clear e
      go_enter Try.func48, Try.ntmps48
      go_wp2_with fail
      refine hg.mono ?_
      rintro e w' ⟨rfl, rfl⟩
      go_wp2_with fail
      go_ret3
      exact ⟨rfl, rfl⟩
    · have e : boolOf (x, y, 0) = (x == 1, y, 0) := by simp [boolOf, hx]
      rw [e]
      clear e
      go_enter Try.func48, Try.ntmps48
      go_wp2_with fail
      refine hg.mono ?_
      rintro e w' ⟨rfl, rfl⟩
      go_wp2_with fail
      go_ret3
      exact ⟨rfl, rfl⟩
  · have e : boolOf (x, y, z) = (false, 0, z) := by simp [boolOf, hz]
    rw [e]
    clear e
    have hz2 : (z == 0) = false := by simpa using hz
    go_enter Try.func48, Try.ntmps48
    go_wp2_with fail
    refine hg.mono ?_
    rintro e w' ⟨rfl, rfl⟩
    go_wp2_with fail
    go_ret3
    exact ⟨rfl, rfl⟩
theorem putnum_any (n : Int) (w : World) :
    Calls Try.prog 51 #[.int .i64 n] w fun e w' => ∃ v, e = .returned v ∧ w'.ownsRow w.heap.size 5 1 v 8 ((be 8 n).map byt) ∧ Below w.heap.size w w' := by
  go_enter Try.func51, Try.ntmps51
  go_wp2_with fail
  refine (put64_any n 8 (by omega) w).mono ?_
  rintro e w1 ⟨v, rfl, hown, hb⟩
  go_wp2_with fail
  go_ret
  exact ⟨_, rfl, hown, hb⟩
theorem putbool_any (b : Bool) (w : World) :
    Calls Try.prog 27 #[.bool b] w fun e w' => ∃ v, e = .returned v ∧ w'.ownsRow w.heap.size 5 1 v 1 ([tb b].map byt) ∧ Below w.heap.size w w' := by
  cases b
  · go_enter Try.func27, Try.ntmps27
    go_wp2_with fail
    refine (putint_any 0 1 (by omega) w).mono ?_
    rintro e w1 ⟨v, rfl, hown, hb⟩
    go_wp2_with fail
    go_ret
    exact ⟨_, rfl, hown, hb⟩
  · go_enter Try.func27, Try.ntmps27
    go_wp2_with fail
    refine (putint_any 1 1 (by omega) w).mono ?_
    rintro e w1 ⟨v, rfl, hown, hb⟩
    go_wp2_with fail
    go_ret
    exact ⟨_, rfl, hown, hb⟩
theorem there_no {A : Option Addr} {c n : Nat} {w : World} (a : Int) (ha : a < 0 ∨ (n : Int) < a) :
    Calls Try.prog 62 #[.slice A n c, .int .i64 a] w fun e w' => e = .returned (.tuple #[.slice none 0 0, .int .i64 1]) ∧ w = w' := by
  rcases (show a < 0 ∨ (¬ a < 0 ∧ (n : Int) < a) by omega) with h2 | ⟨h2, h3⟩
  · clear ha
    go_enter Try.func62, Try.ntmps62
    go_wp2_with fail
    go_ret2
    exact ⟨rfl, rfl⟩
  · have h4 : ¬ a ≤ (n : Int) := by omega
    clear ha
    go_enter Try.func62, Try.ntmps62
    go_wp2_with fail
    go_ret2
    exact ⟨rfl, rfl⟩
theorem there_ok {A : Option Addr} {c n : Nat} {w : World} (k : Nat) (hk : k ≤ n) :
    Calls Try.prog 62 #[.slice A n c, .int .i64 k] w fun e w' => e = .returned (.tuple #[.slice (cutA A c k 1) (n - k) (c - k), .int .i64 0]) ∧ w = w' := by
  have hsl := fun W => run_slice_from (P := Try.prog) Try.underlying22 infoB A n c k .i64 k rfl hk W
  have q : ¬ (n < k) := by omega
  generalize cutA A c k 1 = B at hsl ⊢
  go_enter Try.func62, Try.ntmps62
  go_wp2_with fail
  go_ret2
  exact ⟨rfl, rfl⟩
end Go.Proofs.Ytoceipdkmafagaa
