import Derived.Test.YtgkdnhbhmebmeaaDoorPlain1
import Derived.Test.YtgkdnhbhmebmeaaDoorWires1
/-! post: are all of some numbers between two -/
namespace Go.Proofs.YtgkdnhbhmebmeaaDoor
open Go.RowKit Go.Cov
def betw (low high : Int) (ns : List Int) : Bool := ns.all (fun n => decide (low ≤ n ∧ n ≤ high))
theorem betw_no {low high : Int} {ns : List Int} (k : Nat) (hk : k < ns.length) (h : ¬ (low ≤ ns[k] ∧ ns[k] ≤ high)) : betw low high ns = false := by
  unfold betw
  rw [List.all_eq_false]
  exact ⟨ns[k], List.getElem_mem hk, by simpa using h⟩
theorem betw_yes {low high : Int} {ns : List Int} (h : ∀ k, (hk : k < ns.length) → low ≤ ns[k] ∧ ns[k] ≤ high) : betw low high ns = true := by
  unfold betw
  rw [List.all_eq_true]
  intro x hx
  obtain ⟨k, hk, rfl⟩ := List.getElem_of_mem hx
  exact decide_eq_true (h k hk)
set_option maxHeartbeats 1600000 in
theorem between_kind {w : World} {A : Option Addr} {c : Nat} {ns : List Int} (low high : Int) (n : Nat) (hn : ns.length = n) (h : Rd w A (ns.map (.int .i64))) (hm : n ≤ 1000) :
    Calls Tryd.prog 40 #[.int .i64 low, .int .i64 high, .slice A n c] w fun e w' => e = .returned (.bool (betw low high ns)) ∧ w = w' := by
  replace hn := hid hn
  go_enter Tryd.func40, Tryd.ntmps40
  go_wp2_with fail
  go_loopw [8, 11] (fun _ i W => ∃ k : Nat, k ≤ n ∧ i = .int .i64 k ∧ (∀ j, (hj : j < ns.length) → j < k → low ≤ ns[j] ∧ ns[j] ≤ high) ∧ W = w) (fun _ i _ => n - (RowKit.intOf i).toNat)
  case atStart => exact ⟨0, by omega, rfl, fun j _ hj => by omega, rfl⟩
  case round =>
    obtain ⟨k, hk, rfl, hall, rfl⟩ := hrel
    by_cases hlt : k < n
    · have i1 : (k : Int) < n := by omega
      have hkl : k < ns.length := by have := hn.out; omega
      obtain ⟨ad, rfl, x0⟩ := h k (.int .i64 ns[k]) (by simp [hkl])
      by_cases h1 : low ≤ ns[k]
      · have j1 : decide (ns[k] < low) = false := decide_eq_false (by omega)
        by_cases h2 : ns[k] ≤ high
        · have j2 : decide (high < ns[k]) = false := decide_eq_false (by omega)
          have hkk := hid (show low ≤ ns[k] ∧ ns[k] ≤ high from ⟨h1, h2⟩)
          generalize ns[k] = x at x0 j1 j2 h1 h2
          go_wp2_with fail
          go_roundw
          case rel => exact ⟨k + 1, by omega, by go_num, fun j hj hj2 => (if hjk : j = k then by subst hjk; exact hkk.out else hall j hj (by omega)), trivial⟩
          case measure => simp [RowKit.intOf]; omega
        · have j2 : decide (high < ns[k]) = true := decide_eq_true (by omega)
          have hf := hid (betw_no (low := low) k hkl (fun hh => h2 hh.2))
          generalize ns[k] = x at x0 j1 j2 h1 h2
          go_wp2_with fail
          go_ret
          exact ⟨by rw [hf.out]; rfl, rfl⟩
      · have j1 : decide (ns[k] < low) = true := decide_eq_true (by omega)
        have hf := hid (betw_no (high := high) k hkl (fun hh => h1 hh.1))
        generalize ns[k] = x at x0 j1 h1
        go_wp2_with fail
        go_ret
        exact ⟨by rw [hf.out]; rfl, rfl⟩
    · obtain rfl : k = n := by omega
      go_wp2_with fail
      go_ret
      exact ⟨by rw [betw_yes (fun j hj => hall j hj (by have := hn.out; omega))]; rfl, rfl⟩
set_option maxHeartbeats 1600000 in
theorem between_int {w : World} {A : Option Addr} {c : Nat} {ns : List Int} (low high : Int) (n : Nat) (hn : ns.length = n) (h : Rd w A (ns.map (.int .i64))) (hm : n ≤ 1000) :
    Calls Tryd.prog 41 #[.int .i64 low, .int .i64 high, .slice A n c] w fun e w' => e = .returned (.bool (betw low high ns)) ∧ w = w' := by
  replace hn := hid hn
  go_enter Tryd.func41, Tryd.ntmps41
  go_wp2_with fail
  go_loopw [8, 11] (fun _ i W => ∃ k : Nat, k ≤ n ∧ i = .int .i64 k ∧ (∀ j, (hj : j < ns.length) → j < k → low ≤ ns[j] ∧ ns[j] ≤ high) ∧ W = w) (fun _ i _ => n - (RowKit.intOf i).toNat)
  case atStart => exact ⟨0, by omega, rfl, fun j _ hj => by omega, rfl⟩
  case round =>
    obtain ⟨k, hk, rfl, hall, rfl⟩ := hrel
    by_cases hlt : k < n
    · have i1 : (k : Int) < n := by omega
      have hkl : k < ns.length := by have := hn.out; omega
      obtain ⟨ad, rfl, x0⟩ := h k (.int .i64 ns[k]) (by simp [hkl])
      by_cases h1 : low ≤ ns[k]
      · have j1 : decide (ns[k] < low) = false := decide_eq_false (by omega)
        by_cases h2 : ns[k] ≤ high
        · have j2 : decide (high < ns[k]) = false := decide_eq_false (by omega)
          have hkk := hid (show low ≤ ns[k] ∧ ns[k] ≤ high from ⟨h1, h2⟩)
          generalize ns[k] = x at x0 j1 j2 h1 h2
          go_wp2_with fail
          go_roundw
          case rel => exact ⟨k + 1, by omega, by go_num, fun j hj hj2 => (if hjk : j = k then by subst hjk; exact hkk.out else hall j hj (by omega)), trivial⟩
          case measure => simp [RowKit.intOf]; omega
        · have j2 : decide (high < ns[k]) = true := decide_eq_true (by omega)
          have hf := hid (betw_no (low := low) k hkl (fun hh => h2 hh.2))
          generalize ns[k] = x at x0 j1 j2 h1 h2
          go_wp2_with fail
          go_ret
          exact ⟨by rw [hf.out]; rfl, rfl⟩
      · have j1 : decide (ns[k] < low) = true := decide_eq_true (by omega)
        have hf := hid (betw_no (high := high) k hkl (fun hh => h1 hh.1))
        generalize ns[k] = x at x0 j1 h1
        go_wp2_with fail
        go_ret
        exact ⟨by rw [hf.out]; rfl, rfl⟩
    · obtain rfl : k = n := by omega
      go_wp2_with fail
      go_ret
      exact ⟨by rw [betw_yes (fun j hj => hall j hj (by have := hn.out; omega))]; rfl, rfl⟩
set_option maxHeartbeats 1600000 in
theorem between_i64 {w : World} {A : Option Addr} {c : Nat} {ns : List Int} (low high : Int) (n : Nat) (hn : ns.length = n) (h : Rd w A (ns.map (.int .i64))) (hm : n ≤ 1000) :
    Calls Tryd.prog 33 #[.int .i64 low, .int .i64 high, .slice A n c] w fun e w' => e = .returned (.bool (betw low high ns)) ∧ w = w' := by
  replace hn := hid hn
  go_enter Tryd.func33, Tryd.ntmps33
  go_wp2_with fail
  go_loopw [8, 11] (fun _ i W => ∃ k : Nat, k ≤ n ∧ i = .int .i64 k ∧ (∀ j, (hj : j < ns.length) → j < k → low ≤ ns[j] ∧ ns[j] ≤ high) ∧ W = w) (fun _ i _ => n - (RowKit.intOf i).toNat)
  case atStart => exact ⟨0, by omega, rfl, fun j _ hj => by omega, rfl⟩
  case round =>
    obtain ⟨k, hk, rfl, hall, rfl⟩ := hrel
    by_cases hlt : k < n
    · have i1 : (k : Int) < n := by omega
      have hkl : k < ns.length := by have := hn.out; omega
      obtain ⟨ad, rfl, x0⟩ := h k (.int .i64 ns[k]) (by simp [hkl])
      by_cases h1 : low ≤ ns[k]
      · have j1 : decide (ns[k] < low) = false := decide_eq_false (by omega)
        by_cases h2 : ns[k] ≤ high
        · have j2 : decide (high < ns[k]) = false := decide_eq_false (by omega)
          have hkk := hid (show low ≤ ns[k] ∧ ns[k] ≤ high from ⟨h1, h2⟩)
          generalize ns[k] = x at x0 j1 j2 h1 h2
          go_wp2_with fail
          go_roundw
          case rel => exact ⟨k + 1, by omega, by go_num, fun j hj hj2 => (if hjk : j = k then by subst hjk; exact hkk.out else hall j hj (by omega)), trivial⟩
          case measure => simp [RowKit.intOf]; omega
        · have j2 : decide (high < ns[k]) = true := decide_eq_true (by omega)
          have hf := hid (betw_no (low := low) k hkl (fun hh => h2 hh.2))
          generalize ns[k] = x at x0 j1 j2 h1 h2
          go_wp2_with fail
          go_ret
          exact ⟨by rw [hf.out]; rfl, rfl⟩
      · have j1 : decide (ns[k] < low) = true := decide_eq_true (by omega)
        have hf := hid (betw_no (high := high) k hkl (fun hh => h1 hh.1))
        generalize ns[k] = x at x0 j1 h1
        go_wp2_with fail
        go_ret
        exact ⟨by rw [hf.out]; rfl, rfl⟩
    · obtain rfl : k = n := by omega
      go_wp2_with fail
      go_ret
      exact ⟨by rw [betw_yes (fun j hj => hall j hj (by have := hn.out; omega))]; rfl, rfl⟩
end Go.Proofs.YtgkdnhbhmebmeaaDoor
