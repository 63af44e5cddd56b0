import Derived.Test.YtoceipdkmafagaaWireA
import Derived.Test.YtoceipdkmafagaaWireP
namespace Go.Proofs.Ytoceipdkmafagaa
open Go.RowKit Go.Cov
set_option maxHeartbeats 800000 in
theorem get64_ok {A : Option Addr} {c : Nat} {l : List UInt8} {w : World} (h : Rd w A (l.map byt)) (hc : l.length ≤ c) (hl : l.length ≤ 140737488351236) (at' : Nat) (s : Nat) (hs : s ≤ 8) (hat : at' + s ≤ l.length) :
    Calls Try.prog 56 #[.slice A l.length c, .int .i64 at', .int .i64 s] w fun e w' => e = .returned (.tuple #[.int .i64 (gv ((l.drop at').take s)), .int .i64 ((at' : Int) + s), .int .i64 0]) ∧ w = w' := by
  have e1 : IntKind.i64.wrap ((at' : Int) + s) = (at' : Int) + s := by simp [IntKind.wrap, IntKind.signed, IntKind.bits]; omega
  have e2 : IntKind.i64.wrap ((l.length : Int) - at') = ((l.length - at' : Nat) : Int) := by simp [IntKind.wrap, IntKind.signed, IntKind.bits]; omega
  have hr : Rd w (cutA A c at' 1) (((l.drop at').take s).map byt) := by
    have := (h.cutA at' 1 (c := c) (by simpa using hc)).take s
    simpa using this
  have hsl := fun W => run_slice_mid (P := Try.prog) Try.underlying22 infoB A l.length c at' (at' + s) .i64 .i64 at' ((at' : Int) + (s : Int)) rfl (by omega) (by omega) (by omega) W
  have hdl : ((l.drop at').take s).length = s := by simp; omega
  rw [show at' + s - at' = s by omega] at hsl
  have q1 : at' ≤ l.length := by omega
  have q2 : s ≤ l.length - at' := by omega
  have q3 : ¬ (l.length < at') := by omega
  have q4 : ¬ (l.length - at' < s) := by omega
  revert hr hsl hdl
  generalize cutA A c at' 1 = B
  generalize (l.drop at').take s = m
  intro hr hsl hdl
  go_enter Try.func56, Try.ntmps56
  go_wp2_with fail
  go_loopw [9, 33] (fun v i W => ∃ (k : Nat), k ≤ s ∧ i = .int .i64 k ∧ v = .int .i64 (gv (m.take k)) ∧ W = w) (fun _ i _ => s - (intOf i).toNat)
  case atStart => exact ⟨0, Nat.zero_le _, rfl, rfl, rfl⟩
  case round =>
    obtain ⟨k, hk, rfl, rfl, rfl⟩ := hrel
    by_cases hlt : k < s
    · obtain ⟨pb, rfl, hcell⟩ := hr k (byt m[k]) (by rw [List.getElem?_map, List.getElem?_eq_getElem (by omega)]; rfl)
      have hg := hid (gv_step m k (by omega))
      generalize m[k] = x at hcell hg
      simp only [byt] at hcell
      generalize gv (m.take k) = v at hg
      have eo := or_step v x
      generalize hy : wrap64 (v * 256 + x.toNat) = y at hg eo
      have Hy := hid hy
      clear hy
      go_wp2_with fail
      go_roundw
      case rel => exact ⟨k + 1, by omega, by go_num, by rw [hg.out], trivial⟩
      case measure => simp [intOf]; omega
    · obtain rfl : k = s := by omega
      rw [List.take_of_length_le (by omega)]
      go_wp2_with fail
      go_ret3
      exact ⟨rfl, rfl⟩
set_option maxHeartbeats 800000 in
theorem getint_ok {A : Option Addr} {c : Nat} {l : List UInt8} {w : World} (h : Rd w A (l.map byt)) (hc : l.length ≤ c) (hl : l.length ≤ 140737488351236) (at' : Nat) (s : Nat) (hs : s ≤ 8) (hat : at' + s ≤ l.length) :
    Calls Try.prog 61 #[.slice A l.length c, .int .i64 at', .int .i64 s] w fun e w' => e = .returned (.tuple #[.int .i64 (gv ((l.drop at').take s)), .int .i64 ((at' : Int) + s), .int .i64 0]) ∧ w = w' := by
  have e1 : IntKind.i64.wrap ((at' : Int) + s) = (at' : Int) + s := by simp [IntKind.wrap, IntKind.signed, IntKind.bits]; omega
  have e2 : IntKind.i64.wrap ((l.length : Int) - at') = ((l.length - at' : Nat) : Int) := by simp [IntKind.wrap, IntKind.signed, IntKind.bits]; omega
  have hr : Rd w (cutA A c at' 1) (((l.drop at').take s).map byt) := by
    have := (h.cutA at' 1 (c := c) (by simpa using hc)).take s
    simpa using this
  have hsl := fun W => run_slice_mid (P := Try.prog) Try.underlying22 infoB A l.length c at' (at' + s) .i64 .i64 at' ((at' : Int) + (s : Int)) rfl (by omega) (by omega) (by omega) W
  have hdl : ((l.drop at').take s).length = s := by simp; omega
  rw [show at' + s - at' = s by omega] at hsl
  have q1 : at' ≤ l.length := by omega
  have q2 : s ≤ l.length - at' := by omega
  have q3 : ¬ (l.length < at') := by omega
  have q4 : ¬ (l.length - at' < s) := by omega
  revert hr hsl hdl
  generalize cutA A c at' 1 = B
  generalize (l.drop at').take s = m
  intro hr hsl hdl
  go_enter Try.func61, Try.ntmps61
  go_wp2_with fail
  go_loopw [9, 33] (fun v i W => ∃ (k : Nat), k ≤ s ∧ i = .int .i64 k ∧ v = .int .i64 (gv (m.take k)) ∧ W = w) (fun _ i _ => s - (intOf i).toNat)
  case atStart => exact ⟨0, Nat.zero_le _, rfl, rfl, rfl⟩
  case round =>
    obtain ⟨k, hk, rfl, rfl, rfl⟩ := hrel
    by_cases hlt : k < s
    · obtain ⟨pb, rfl, hcell⟩ := hr k (byt m[k]) (by rw [List.getElem?_map, List.getElem?_eq_getElem (by omega)]; rfl)
      have hg := hid (gv_step m k (by omega))
      generalize m[k] = x at hcell hg
      simp only [byt] at hcell
      generalize gv (m.take k) = v at hg
      have eo := or_step v x
      generalize hy : wrap64 (v * 256 + x.toNat) = y at hg eo
      have Hy := hid hy
      clear hy
      go_wp2_with fail
      go_roundw
      case rel => exact ⟨k + 1, by omega, by go_num, by rw [hg.out], trivial⟩
      case measure => simp [intOf]; omega
    · obtain rfl : k = s := by omega
      rw [List.take_of_length_le (by omega)]
      go_wp2_with fail
      go_ret3
      exact ⟨rfl, rfl⟩
set_option maxHeartbeats 800000 in
theorem get64_any {A : Option Addr} {c : Nat} {l : List UInt8} {w : World} (h : Rd w A (l.map byt)) (hc : l.length ≤ c) (hl : l.length ≤ 140737488351236) (a : Int) (s : Nat) (hs : s ≤ 8) :
    Calls Try.prog 56 #[.slice A l.length c, .int .i64 a, .int .i64 s] w fun e w' => e = .returned (.tuple #[.int .i64 (getR l a s).1, .int .i64 (getR l a s).2.1, .int .i64 (getR l a s).2.2]) ∧ w = w' := by
  by_cases h1 : a < 0 ∨ (l.length : Int) < a
  · have e : getR l a s = (0, 0, 1) := by rw [getR, if_pos h1]
    rw [e]
    clear e
    rcases (show a < 0 ∨ (¬ a < 0 ∧ (l.length : Int) < a) by omega) with h2 | ⟨h2, h3⟩
    · clear h1
      go_enter Try.func56, Try.ntmps56
      go_wp2_with fail
      go_ret3
      exact ⟨rfl, rfl⟩
    · clear h1
      have h4 : ¬ a ≤ (l.length : Int) := by omega
      go_enter Try.func56, Try.ntmps56
      go_wp2_with fail
      go_ret3
      exact ⟨rfl, rfl⟩
  · obtain ⟨k, rfl⟩ : ∃ k : Nat, a = k := ⟨a.toNat, by omega⟩
    by_cases h2 : (l.length : Int) - k < s
    · have e : getR l k s = (0, 0, 11) := by rw [getR, if_neg h1, if_pos h2]
      rw [e]
      clear e
      have e2 : IntKind.i64.wrap ((l.length : Int) - k) = ((l.length - k : Nat) : Int) := by simp [IntKind.wrap, IntKind.signed, IntKind.bits]; omega
      have q1 : k ≤ l.length := by omega
      have q3 : ¬ (l.length < k) := by omega
      have q4 : l.length - k < s := by omega
      clear h1 h2
      go_enter Try.func56, Try.ntmps56
      go_wp2_with fail
      go_ret3
      exact ⟨rfl, rfl⟩
    · have e : getR l k s = (gv ((l.drop k).take s), (k : Int) + s, 0) := by rw [getR, if_neg h1, if_neg h2]; rfl
      rw [e]
      exact get64_ok h hc hl k s hs (by omega)
set_option maxHeartbeats 800000 in
theorem getint_any {A : Option Addr} {c : Nat} {l : List UInt8} {w : World} (h : Rd w A (l.map byt)) (hc : l.length ≤ c) (hl : l.length ≤ 140737488351236) (a : Int) (s : Nat) (hs : s ≤ 8) :
    Calls Try.prog 61 #[.slice A l.length c, .int .i64 a, .int .i64 s] w fun e w' => e = .returned (.tuple #[.int .i64 (getR l a s).1, .int .i64 (getR l a s).2.1, .int .i64 (getR l a s).2.2]) ∧ w = w' := by
  by_cases h1 : a < 0 ∨ (l.length : Int) < a
  · have e : getR l a s = (0, 0, 1) := by rw [getR, if_pos h1]
    rw [e]
    clear e
    rcases (show a < 0 ∨ (¬ a < 0 ∧ (l.length : Int) < a) by omega) with h2 | ⟨h2, h3⟩
    · clear h1
      go_enter Try.func61, Try.ntmps61
      go_wp2_with fail
      go_ret3
      exact ⟨rfl, rfl⟩
    · clear h1
      have h4 : ¬ a ≤ (l.length : Int) := by omega
      go_enter Try.func61, Try.ntmps61
      go_wp2_with fail
      go_ret3
      exact ⟨rfl, rfl⟩
  · obtain ⟨k, rfl⟩ : ∃ k : Nat, a = k := ⟨a.toNat, by omega⟩
    by_cases h2 : (l.length : Int) - k < s
    · have e : getR l k s = (0, 0, 11) := by rw [getR, if_neg h1, if_pos h2]
      rw [e]
      clear e
      have e2 : IntKind.i64.wrap ((l.length : Int) - k) = ((l.length - k : Nat) : Int) := by simp [IntKind.wrap, IntKind.signed, IntKind.bits]; omega
      have q1 : k ≤ l.length := by omega
      have q3 : ¬ (l.length < k) := by omega
      have q4 : l.length - k < s := by omega
      clear h1 h2
      go_enter Try.func61, Try.ntmps61
      go_wp2_with fail
      go_ret3
      exact ⟨rfl, rfl⟩
    · have e : getR l k s = (gv ((l.drop k).take s), (k : Int) + s, 0) := by rw [getR, if_neg h1, if_neg h2]; rfl
      rw [e]
      exact getint_ok h hc hl k s hs (by omega)
end Go.Proofs.Ytoceipdkmafagaa
