import Derived.Test.YtkmeoobbjdbhjaaWireB
namespace Go.Proofs.Ytkmeoobbjdbhjaa
open Go.RowKit Go.Cov
theorem there_no {A : Option Addr} {c n : Nat} {w : World} (a : Int) (ha : a < 0 ∨ (n : Int) < a) :
    Calls Try.prog 50 #[.slice A n c, .int .i64 a] w fun e w' => e = .returned (.tuple #[.slice none 0 0, .int .i64 1]) ∧ w = w' := by
  rcases (show a < 0 ∨ (¬ a < 0 ∧ (n : Int) < a) by omega) with h2 | ⟨h2, h3⟩
  · clear ha
    go_enter Try.func50, Try.ntmps50
    go_wp2_with fail
    go_ret2
    exact ⟨rfl, rfl⟩
  · have h4 : ¬ a ≤ (n : Int) := by omega
    clear ha
    go_enter Try.func50, Try.ntmps50
    go_wp2_with fail
    go_ret2
    exact ⟨rfl, rfl⟩
theorem there_ok {A : Option Addr} {c n : Nat} {w : World} (k : Nat) (hk : k ≤ n) :
    Calls Try.prog 50 #[.slice A n c, .int .i64 k] w fun e w' => e = .returned (.tuple #[.slice (cutA A c k 1) (n - k) (c - k), .int .i64 0]) ∧ w = w' := by
  have hsl := fun W => run_slice_from (P := Try.prog) Try.underlying23 infoB A n c k .i64 k rfl hk W
  have q : ¬ (n < k) := by omega
  generalize cutA A c k 1 = B at hsl ⊢
  go_enter Try.func50, Try.ntmps50
  go_wp2_with fail
  go_ret2
  exact ⟨rfl, rfl⟩
end Go.Proofs.Ytkmeoobbjdbhjaa
