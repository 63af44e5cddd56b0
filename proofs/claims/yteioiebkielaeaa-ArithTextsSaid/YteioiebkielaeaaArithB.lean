import Derived.Test.YteioiebkielaeaaArithA
import Derived.Shelf.Bits.Mul64
namespace Go.Proofs.Yteioiebkielaeaa
open Go.RowKit Go.Cov Go.Lib
/-- a number, or that it is too great -/
def inR (n : Int) : Int × Int := if -9223372036854775808 ≤ n ∧ n < 9223372036854775808 then (n, 0) else (0, 3)
theorem inR_ok {n : Int} (h1 : -9223372036854775808 ≤ n) (h2 : n < 9223372036854775808) : inR n = (n, 0) := by rw [inR, if_pos ⟨h1, h2⟩]
theorem inR_no {n : Int} (h : ¬ (-9223372036854775808 ≤ n ∧ n < 9223372036854775808)) : inR n = (0, 3) := by rw [inR, if_neg h]
theorem in_yes (n : Int) (w : World) : Calls Try.prog 24 #[.int .i64 n, .bool true] w fun e w' => e = .returned (.tuple #[.int .i64 n, .int .i64 0]) ∧ w = w' := by
  go_enter Try.func24, Try.ntmps24
  go_wp2
  go_ret2
  exact ⟨rfl, rfl⟩
theorem in_no (n : Int) (w : World) : Calls Try.prog 24 #[.int .i64 n, .bool false] w fun e w' => e = .returned (.tuple #[.int .i64 0, .int .i64 3]) ∧ w = w' := by
  go_enter Try.func24, Try.ntmps24
  go_wp2
  go_ret2
  exact ⟨rfl, rfl⟩
theorem wrap_hi (n : Int) (h1 : 9223372036854775808 ≤ n) (h2 : n < 18446744073709551616) : IntKind.i64.wrap n = n - 18446744073709551616 := by
  rw [wrap_is]; simp only [wrap64]; omega
theorem wrap_lo (n : Int) (h1 : n < -9223372036854775808) (h2 : -18446744073709551616 ≤ n) : IntKind.i64.wrap n = n + 18446744073709551616 := by
  rw [wrap_is]; simp only [wrap64]; omega
theorem plus_any (a b : Int) (w : World) (ha : -9223372036854775808 ≤ a ∧ a < 9223372036854775808) (hb : -9223372036854775808 ≤ b ∧ b < 9223372036854775808) :
    Calls Try.prog 23 #[.int .i64 a, .int .i64 b] w fun e w' => e = .returned (.tuple #[.int .i64 (inR (a + b)).1, .int .i64 (inR (a + b)).2]) ∧ w = w' := by
  obtain ⟨s, hs, he⟩ : ∃ s, IntKind.i64.wrap (a + b) = s ∧ (-9223372036854775808 ≤ a + b ∧ a + b < 9223372036854775808 ∧ s = a + b ∨ 9223372036854775808 ≤ a + b ∧ s = a + b - 18446744073709551616 ∨ a + b < -9223372036854775808 ∧ s = a + b + 18446744073709551616) := by
    refine ⟨_, rfl, ?_⟩
    by_cases h1 : a + b < -9223372036854775808
    · exact .inr (.inr ⟨h1, wrap_lo _ h1 (by omega)⟩)
    · by_cases h2 : 9223372036854775808 ≤ a + b
      · exact .inr (.inl ⟨h2, wrap_hi _ h2 (by omega)⟩)
      · exact .inl ⟨by omega, by omega, wrap_of _ (by omega) (by omega)⟩
  by_cases hok : -9223372036854775808 ≤ a + b ∧ a + b < 9223372036854775808
  · have HR := hid (inR_ok hok.1 hok.2)
    have H : Hid (s = a + b) := hid (by omega)
    by_cases h0 : 0 ≤ b
    · have f1 : a ≤ s := by omega
      clear he hok ha hb
      go_enter Try.func23, Try.ntmps23
      go_wp2_with fail
      refine (in_yes _ _).mono ?_
      rintro e w' ⟨rfl, rfl⟩
      go_wp2_with fail
      go_ret2
      rw [HR.out, H.out]
      exact ⟨rfl, rfl⟩
    · have f1 : ¬ (a ≤ s) := by omega
      clear he hok ha hb
      go_enter Try.func23, Try.ntmps23
      go_wp2_with fail
      refine (in_yes _ _).mono ?_
      rintro e w' ⟨rfl, rfl⟩
      go_wp2_with fail
      go_ret2
      rw [HR.out, H.out]
      exact ⟨rfl, rfl⟩
  · have HR := hid (inR_no hok)
    by_cases h0 : 0 ≤ b
    · have f1 : ¬ (a ≤ s) := by omega
      clear he hok ha hb
      go_enter Try.func23, Try.ntmps23
      go_wp2_with fail
      refine (in_no _ _).mono ?_
      rintro e w' ⟨rfl, rfl⟩
      go_wp2_with fail
      go_ret2
      rw [HR.out]
      exact ⟨rfl, rfl⟩
    · have f1 : a ≤ s := by omega
      clear he hok ha hb
      go_enter Try.func23, Try.ntmps23
      go_wp2_with fail
      refine (in_no _ _).mono ?_
      rintro e w' ⟨rfl, rfl⟩
      go_wp2_with fail
      go_ret2
      rw [HR.out]
      exact ⟨rfl, rfl⟩
theorem minus_any (a b : Int) (w : World) (ha : -9223372036854775808 ≤ a ∧ a < 9223372036854775808) (hb : -9223372036854775808 ≤ b ∧ b < 9223372036854775808) :
    Calls Try.prog 25 #[.int .i64 a, .int .i64 b] w fun e w' => e = .returned (.tuple #[.int .i64 (inR (a - b)).1, .int .i64 (inR (a - b)).2]) ∧ w = w' := by
  obtain ⟨s, hs, he⟩ : ∃ s, IntKind.i64.wrap (a - b) = s ∧ (-9223372036854775808 ≤ a - b ∧ a - b < 9223372036854775808 ∧ s = a - b ∨ 9223372036854775808 ≤ a - b ∧ s = a - b - 18446744073709551616 ∨ a - b < -9223372036854775808 ∧ s = a - b + 18446744073709551616) := by
    refine ⟨_, rfl, ?_⟩
    by_cases h1 : a - b < -9223372036854775808
    · exact .inr (.inr ⟨h1, wrap_lo _ h1 (by omega)⟩)
    · by_cases h2 : 9223372036854775808 ≤ a - b
      · exact .inr (.inl ⟨h2, wrap_hi _ h2 (by omega)⟩)
      · exact .inl ⟨by omega, by omega, wrap_of _ (by omega) (by omega)⟩
  by_cases hok : -9223372036854775808 ≤ a - b ∧ a - b < 9223372036854775808
  · have HR := hid (inR_ok hok.1 hok.2)
    have H : Hid (s = a - b) := hid (by omega)
    by_cases h0 : 0 ≤ b
    · have f1 : s ≤ a := by omega
      clear he hok ha hb
      go_enter Try.func25, Try.ntmps25
      go_wp2_with fail
      refine (in_yes _ _).mono ?_
      rintro e w' ⟨rfl, rfl⟩
      go_wp2_with fail
      go_ret2
      rw [HR.out, H.out]
      exact ⟨rfl, rfl⟩
    · have f1 : ¬ (s ≤ a) := by omega
      clear he hok ha hb
      go_enter Try.func25, Try.ntmps25
      go_wp2_with fail
      refine (in_yes _ _).mono ?_
      rintro e w' ⟨rfl, rfl⟩
      go_wp2_with fail
      go_ret2
      rw [HR.out, H.out]
      exact ⟨rfl, rfl⟩
  · have HR := hid (inR_no hok)
    by_cases h0 : 0 ≤ b
    · have f1 : ¬ (s ≤ a) := by omega
      clear he hok ha hb
      go_enter Try.func25, Try.ntmps25
      go_wp2_with fail
      refine (in_no _ _).mono ?_
      rintro e w' ⟨rfl, rfl⟩
      go_wp2_with fail
      go_ret2
      rw [HR.out]
      exact ⟨rfl, rfl⟩
    · have f1 : s ≤ a := by omega
      clear he hok ha hb
      go_enter Try.func25, Try.ntmps25
      go_wp2_with fail
      refine (in_no _ _).mono ?_
      rintro e w' ⟨rfl, rfl⟩
      go_wp2_with fail
      go_ret2
      rw [HR.out]
      exact ⟨rfl, rfl⟩
/-- a quotient, a rest -/
def quoR (f : Int → Int → Int) (a b : Int) : Int × Int := if b = 0 then (0, 2) else if a = -9223372036854775808 ∧ b = -1 then (0, 3) else (f a b, 0)
theorem natAbs_div (a b : Int) : (a.tdiv b).natAbs = a.natAbs / b.natAbs := Int.natAbs_tdiv a b
theorem tdiv_in (a b : Int) (ha : -9223372036854775808 ≤ a ∧ a < 9223372036854775808) (_hbr : -9223372036854775808 ≤ b ∧ b < 9223372036854775808) (h : ¬ (a = -9223372036854775808 ∧ b = -1)) (hb : b ≠ 0) : -9223372036854775808 ≤ a.tdiv b ∧ a.tdiv b < 9223372036854775808 := by
  have h1 := natAbs_div a b
  have h2 : a.natAbs / b.natAbs ≤ a.natAbs := Nat.div_le_self _ _
  by_cases hm : a.natAbs < 9223372036854775808
  · omega
  · have ha2 : a = -9223372036854775808 := by omega
    have hb1 : b ≠ -1 := fun hh => h ⟨ha2, hh⟩
    by_cases hb2 : b = 1
    · subst hb2; rw [Int.tdiv_one]; omega
    · have h3 : 2 ≤ b.natAbs := by omega
      have h4 : a.natAbs / b.natAbs ≤ a.natAbs / 2 := Nat.div_le_div_left h3 (by decide)
      omega
theorem tmod_in (a b : Int) (_ha : -9223372036854775808 ≤ a ∧ a < 9223372036854775808) (hbr : -9223372036854775808 ≤ b ∧ b < 9223372036854775808) (_h : ¬ (a = -9223372036854775808 ∧ b = -1)) (hb : b ≠ 0) : -9223372036854775808 ≤ a.tmod b ∧ a.tmod b < 9223372036854775808 := by
  have h1 : (a.tmod b).natAbs = a.natAbs % b.natAbs := Int.natAbs_tmod a b
  have h2 : a.natAbs % b.natAbs < b.natAbs := Nat.mod_lt _ (by omega)
  omega
theorem quo1_any (a b : Int) (w : World) (h0 : b ≠ 0) (t1 : -9223372036854775808 ≤ Int.tdiv a b) (t2 : Int.tdiv a b < 9223372036854775808) :
    Calls Try.prog 28 #[.int .i64 a, .int .i64 b] w fun e w' => e = .returned (.int .i64 (Int.tdiv a b)) ∧ w = w' := by
  have h0b : (b == 0) = false := by simpa using h0
  have e1 := wrap_of (Int.tdiv a b) t1 (by omega)
  go_enter Try.func28, Try.ntmps28
  go_wp2_with fail
  go_ret
  exact ⟨rfl, rfl⟩
theorem quo_any (a b : Int) (w : World) {q : Nat} (hq : w.cell? ⟨q, 0, none⟩ = some (.func (.func 28) #[] #[])) (ha : -9223372036854775808 ≤ a ∧ a < 9223372036854775808) (hb : -9223372036854775808 ≤ b ∧ b < 9223372036854775808) :
    Calls Try.prog 45 #[.int .i64 a, .int .i64 b, .pointer (some ⟨q, 0, none⟩)] w fun e w' => e = .returned (.tuple #[.int .i64 (quoR Int.tdiv a b).1, .int .i64 (quoR Int.tdiv a b).2]) ∧ w = w' := by
  by_cases h0 : b = 0
  · subst h0
    rw [quoR, if_pos rfl]
    go_enter Try.func45, Try.ntmps45
    go_wp2
    go_ret2
    exact ⟨rfl, rfl⟩
  · have h0b : (b == 0) = false := by simpa using h0
    by_cases h1 : a = -9223372036854775808 ∧ b = -1
    · rw [quoR, if_neg h0, if_pos h1]
      obtain ⟨rfl, rfl⟩ := h1
      go_enter Try.func45, Try.ntmps45
      go_wp2
      go_ret2
      exact ⟨rfl, rfl⟩
    · have HR : Hid (quoR Int.tdiv a b = (Int.tdiv a b, 0)) := hid (by rw [quoR, if_neg h0, if_neg h1])
      obtain ⟨t1, t2⟩ := tdiv_in a b ha hb h1 h0
      have K := hid (fun w => quo1_any a b w h0 t1 t2)
      clear t1 t2
      generalize Int.tdiv a b = r at HR K
      by_cases h2 : a = -9223372036854775808
      · have h3 : (b == -1) = false := beq_eq_false_iff_ne.2 (fun h => h1 ⟨h2, h⟩)
        subst h2
        clear h1
        go_enter Try.func45, Try.ntmps45
        go_wp2_with fail
        refine (K.out _).mono ?_
        rintro e w' ⟨rfl, rfl⟩
        go_wp2_with fail
        go_ret2
        rw [HR.out]
        exact ⟨rfl, rfl⟩
      · have h3 : (a == -9223372036854775808) = false := beq_eq_false_iff_ne.2 h2
        clear h1
        go_enter Try.func45, Try.ntmps45
        go_wp2_with fail
        refine (K.out _).mono ?_
        rintro e w' ⟨rfl, rfl⟩
        go_wp2_with fail
        go_ret2
        rw [HR.out]
        exact ⟨rfl, rfl⟩
theorem rem1_any (a b : Int) (w : World) (h0 : b ≠ 0) (t1 : -9223372036854775808 ≤ Int.tmod a b) (t2 : Int.tmod a b < 9223372036854775808) :
    Calls Try.prog 29 #[.int .i64 a, .int .i64 b] w fun e w' => e = .returned (.int .i64 (Int.tmod a b)) ∧ w = w' := by
  have h0b : (b == 0) = false := by simpa using h0
  have e1 := wrap_of (Int.tmod a b) t1 (by omega)
  go_enter Try.func29, Try.ntmps29
  go_wp2_with fail
  go_ret
  exact ⟨rfl, rfl⟩
theorem rem_any (a b : Int) (w : World) {q : Nat} (hq : w.cell? ⟨q, 0, none⟩ = some (.func (.func 29) #[] #[])) (ha : -9223372036854775808 ≤ a ∧ a < 9223372036854775808) (hb : -9223372036854775808 ≤ b ∧ b < 9223372036854775808) :
    Calls Try.prog 45 #[.int .i64 a, .int .i64 b, .pointer (some ⟨q, 0, none⟩)] w fun e w' => e = .returned (.tuple #[.int .i64 (quoR Int.tmod a b).1, .int .i64 (quoR Int.tmod a b).2]) ∧ w = w' := by
  by_cases h0 : b = 0
  · subst h0
    rw [quoR, if_pos rfl]
    go_enter Try.func45, Try.ntmps45
    go_wp2
    go_ret2
    exact ⟨rfl, rfl⟩
  · have h0b : (b == 0) = false := by simpa using h0
    by_cases h1 : a = -9223372036854775808 ∧ b = -1
    · rw [quoR, if_neg h0, if_pos h1]
      obtain ⟨rfl, rfl⟩ := h1
      go_enter Try.func45, Try.ntmps45
      go_wp2
      go_ret2
      exact ⟨rfl, rfl⟩
    · have HR : Hid (quoR Int.tmod a b = (Int.tmod a b, 0)) := hid (by rw [quoR, if_neg h0, if_neg h1])
      obtain ⟨t1, t2⟩ := tmod_in a b ha hb h1 h0
      have K := hid (fun w => rem1_any a b w h0 t1 t2)
      clear t1 t2
      generalize Int.tmod a b = r at HR K
      by_cases h2 : a = -9223372036854775808
      · have h3 : (b == -1) = false := beq_eq_false_iff_ne.2 (fun h => h1 ⟨h2, h⟩)
        subst h2
        clear h1
        go_enter Try.func45, Try.ntmps45
        go_wp2_with fail
        refine (K.out _).mono ?_
        rintro e w' ⟨rfl, rfl⟩
        go_wp2_with fail
        go_ret2
        rw [HR.out]
        exact ⟨rfl, rfl⟩
      · have h3 : (a == -9223372036854775808) = false := beq_eq_false_iff_ne.2 h2
        clear h1
        go_enter Try.func45, Try.ntmps45
        go_wp2_with fail
        refine (K.out _).mono ?_
        rintro e w' ⟨rfl, rfl⟩
        go_wp2_with fail
        go_ret2
        rw [HR.out]
        exact ⟨rfl, rfl⟩
end Go.Proofs.Yteioiebkielaeaa
