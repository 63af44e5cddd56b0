import Derived.Test.YteioiebkielaeaaArithB
namespace Go.Proofs.Yteioiebkielaeaa
open Go.RowKit Go.Cov Go.Lib
theorem size_any (n : Int) (w : World) (hn : -9223372036854775808 ≤ n ∧ n < 9223372036854775808) :
    Calls Try.prog 43 #[.int .i64 n] w fun e w' => e = .returned (.int .u64 (n.natAbs : Int)) ∧ w = w' := by
  by_cases h : n < 0
  · have e1 : IntKind.u64.wrap n = n + 18446744073709551616 := by rw [IntKind.wrap_u64]; omega
    have e2 : IntKind.u64.wrap (-(n + 18446744073709551616)) = (n.natAbs : Int) := by rw [IntKind.wrap_u64]; omega
    generalize n + 18446744073709551616 = m at e1 e2
    go_enter Try.func43, Try.ntmps43
    go_wp2
    go_ret
    exact ⟨by rw [← e2]; rfl, rfl⟩
  · have e1 : IntKind.u64.wrap n = (n.natAbs : Int) := by rw [IntKind.wrap_u64]; omega
    go_enter Try.func43, Try.ntmps43
    go_wp2
    go_ret
    exact ⟨by rw [← e1]; rfl, rfl⟩
set_option maxHeartbeats 1000000 in
theorem mul64_any (x y : Nat) (hx : x < 18446744073709551616) (hy : y < 18446744073709551616) (w : World) :
    Calls Try.prog 44 #[.int .u64 x, .int .u64 y] w fun e w' => e = .returned (.tuple #[.int .u64 ((x * y / 18446744073709551616 : Nat) : Int), .int .u64 ((x * y % 18446744073709551616 : Nat) : Int)]) ∧ w = w' := by
  obtain ⟨bd, bt, bw, hhi⟩ := Lib.mul64_hi x y hx hy
  have ba := Lib.half_mul_le (a := x / 4294967296) (b := y / 4294967296) (by omega) (by omega)
  have bb := Lib.half_mul_le (a := x / 4294967296) (b := y % 4294967296) (by omega) (by omega)
  have bc := Lib.half_mul_le (a := x % 4294967296) (b := y / 4294967296) (by omega) (by omega)
  have ba' : x / 4294967296 * (y / 4294967296) < 18446744073709551616 := by omega
  have bb' : x / 4294967296 * (y % 4294967296) < 18446744073709551616 := by omega
  have bc' : x % 4294967296 * (y / 4294967296) < 18446744073709551616 := by omega
  have bh1 : x / 4294967296 * (y / 4294967296) + (x / 4294967296 * (y % 4294967296) + x % 4294967296 * (y % 4294967296) / 4294967296) / 4294967296 < 18446744073709551616 := by omega
  have bh : x / 4294967296 * (y / 4294967296) + (x / 4294967296 * (y % 4294967296) + x % 4294967296 * (y % 4294967296) / 4294967296) / 4294967296 + ((x / 4294967296 * (y % 4294967296) + x % 4294967296 * (y % 4294967296) / 4294967296) % 4294967296 + x % 4294967296 * (y / 4294967296)) / 4294967296 < 18446744073709551616 := by omega
  go_enter Try.func44, Try.ntmps44
  go_wp2
  simp only [Mul64.maskN x hx, Mul64.maskN y hy, Mul64.divN, Mul64.mulN, Mul64.addN, Mul64.wrapN _ bd, Mul64.wrapN _ bb', Mul64.wrapN _ bt, Mul64.maskN _ bt, Mul64.wrapN _ bc', Mul64.wrapN _ bw, Mul64.wrapN _ ba', Mul64.wrapN _ bh1, Mul64.wrapN _ bh, Mul64.wrapM (x * y)]
  rw [hhi]
  go_ret2
  exact ⟨rfl, rfl⟩
theorem mul_same (a b : Int) (h : 0 ≤ a ∧ 0 ≤ b ∨ a < 0 ∧ b < 0) : 0 ≤ a * b := by
  rcases h with ⟨h1, h2⟩ | ⟨h1, h2⟩
  · exact Int.mul_nonneg h1 h2
  · exact Int.mul_nonneg_of_nonpos_of_nonpos (by omega) (by omega)
theorem mul_other (a b : Int) (h : 0 ≤ a ∧ b < 0 ∨ a < 0 ∧ 0 ≤ b) : a * b ≤ 0 := by
  rcases h with ⟨h1, h2⟩ | ⟨h1, h2⟩
  · exact Int.mul_nonpos_of_nonneg_of_nonpos h1 (by omega)
  · exact Int.mul_nonpos_of_nonpos_of_nonneg (by omega) h2
set_option maxHeartbeats 1000000 in
theorem times_any (a b : Int) (w : World) (ha : -9223372036854775808 ≤ a ∧ a < 9223372036854775808) (hb : -9223372036854775808 ≤ b ∧ b < 9223372036854775808) :
    Calls Try.prog 26 #[.int .i64 a, .int .i64 b] w fun e w' => e = .returned (.tuple #[.int .i64 (inR (a * b)).1, .int .i64 (inR (a * b)).2]) ∧ w = w' := by
  have K1 := hid (fun w => size_any a w ha)
  have K2 := hid (fun w => size_any b w hb)
  have K3 := hid (fun w => mul64_any a.natAbs b.natAbs (by omega) (by omega) w)
  have hP : (a * b).natAbs = a.natAbs * b.natAbs := Int.natAbs_mul a b
  have hs1 := mul_same a b
  have hs2 := mul_other a b
  generalize a.natAbs * b.natAbs = P at K3 hP
  obtain ⟨H, hH⟩ : ∃ H, P / 18446744073709551616 = H := ⟨_, rfl⟩
  obtain ⟨L, hL⟩ : ∃ L, P % 18446744073709551616 = L := ⟨_, rfl⟩
  rw [hH, hL] at K3
  have hPH : P = 18446744073709551616 * H + L := by omega
  have hL2 : L < 18446744073709551616 := by omega
  clear hH hL
  have K4 := hid (fun n w => in_no n w)
  have K5 := hid (fun n w => in_yes n w)
  obtain ⟨p, hp⟩ : ∃ p, a * b = p := ⟨_, rfl⟩
  rw [hp] at hP hs1 hs2
  have hok : inR (a * b) = inR p := by rw [hp]
  rw [hok]
  clear hok
  rcases (show (0 ≤ a ∧ 0 ≤ b) ∨ (0 ≤ a ∧ b < 0) ∨ (a < 0 ∧ 0 ≤ b) ∨ (a < 0 ∧ b < 0) by omega) with ⟨s1, s2⟩ | ⟨s1, s2⟩ | ⟨s1, s2⟩ | ⟨s1, s2⟩
  · have g := hs1 (by omega)
    clear hs1 hs2
    have d1 : decide (a < 0) = false := by simp; omega
    have d2 : decide (b < 0) = false := by simp; omega
    by_cases hH0 : H = 0
    · have z1 : ((H : Int) == 0) = true := by rw [hH0]; rfl
      by_cases hm : L ≤ 9223372036854775807
      · have z2 : (L : Int) ≤ 9223372036854775807 := by omega
        have HR : Hid (inR p = (p, 0)) := hid (inR_ok (by omega) (by omega))
        have e1 : IntKind.i64.wrap p = p := wrap_of p (by omega) (by omega)
        rw [← hp] at e1
        clear ha hb hP hPH g hH0
        have Hp := hid hp
        clear hp
        go_enter Try.func26, Try.ntmps26
        go_wp2_with fail
        refine (K1.out _).mono ?_
        rintro e w' ⟨rfl, rfl⟩
        go_wp2_with fail
        refine (K2.out _).mono ?_
        rintro e w' ⟨rfl, rfl⟩
        go_wp2_with fail
        refine (K3.out _).mono ?_
        rintro e w' ⟨rfl, rfl⟩
        go_wp2_with fail
        refine (K5.out _ _).mono ?_
        rintro e w' ⟨rfl, rfl⟩
        go_wp2_with fail
        go_ret2
        rw [HR.out, ← Hp.out]
        exact ⟨rfl, rfl⟩
      · have z2 : decide ((L : Int) ≤ 9223372036854775807) = false := decide_eq_false (by omega)
        have HR : Hid (inR p = (0, 3)) := hid (inR_no (by omega))
        clear ha hb hP hPH g hH0 hp
        go_enter Try.func26, Try.ntmps26
        go_wp2_with fail
        refine (K1.out _).mono ?_
        rintro e w' ⟨rfl, rfl⟩
        go_wp2_with fail
        refine (K2.out _).mono ?_
        rintro e w' ⟨rfl, rfl⟩
        go_wp2_with fail
        refine (K3.out _).mono ?_
        rintro e w' ⟨rfl, rfl⟩
        go_wp2_with fail
        refine (K4.out _ _).mono ?_
        rintro e w' ⟨rfl, rfl⟩
        go_wp2_with fail
        go_ret2
        rw [HR.out]
        exact ⟨rfl, rfl⟩
    · have z1 : ((H : Int) == 0) = false := beq_eq_false_iff_ne.2 (by omega)
      have HR : Hid (inR p = (0, 3)) := hid (inR_no (by omega))
      clear ha hb hP hPH g hH0 hp
      go_enter Try.func26, Try.ntmps26
      go_wp2_with fail
      refine (K1.out _).mono ?_
      rintro e w' ⟨rfl, rfl⟩
      go_wp2_with fail
      refine (K2.out _).mono ?_
      rintro e w' ⟨rfl, rfl⟩
      go_wp2_with fail
      refine (K3.out _).mono ?_
      rintro e w' ⟨rfl, rfl⟩
      go_wp2_with fail
      refine (K4.out _ _).mono ?_
      rintro e w' ⟨rfl, rfl⟩
      go_wp2_with fail
      go_ret2
      rw [HR.out]
      exact ⟨rfl, rfl⟩
  · have g := hs2 (by omega)
    clear hs1 hs2
    have d1 : decide (a < 0) = false := by simp; omega
    have d2 : decide (b < 0) = true := by simp; omega
    by_cases hH0 : H = 0
    · have z1 : ((H : Int) == 0) = true := by rw [hH0]; rfl
      by_cases hm : L ≤ 9223372036854775808
      · have z2 : (L : Int) ≤ 9223372036854775808 := by omega
        have HR : Hid (inR p = (p, 0)) := hid (inR_ok (by omega) (by omega))
        have e1 : IntKind.i64.wrap p = p := wrap_of p (by omega) (by omega)
        rw [← hp] at e1
        clear ha hb hP hPH g hH0
        have Hp := hid hp
        clear hp
        go_enter Try.func26, Try.ntmps26
        go_wp2_with fail
        refine (K1.out _).mono ?_
        rintro e w' ⟨rfl, rfl⟩
        go_wp2_with fail
        refine (K2.out _).mono ?_
        rintro e w' ⟨rfl, rfl⟩
        go_wp2_with fail
        refine (K3.out _).mono ?_
        rintro e w' ⟨rfl, rfl⟩
        go_wp2_with fail
        refine (K5.out _ _).mono ?_
        rintro e w' ⟨rfl, rfl⟩
        go_wp2_with fail
        go_ret2
        rw [HR.out, ← Hp.out]
        exact ⟨rfl, rfl⟩
      · have z2 : decide ((L : Int) ≤ 9223372036854775808) = false := decide_eq_false (by omega)
        have HR : Hid (inR p = (0, 3)) := hid (inR_no (by omega))
        clear ha hb hP hPH g hH0 hp
        go_enter Try.func26, Try.ntmps26
        go_wp2_with fail
        refine (K1.out _).mono ?_
        rintro e w' ⟨rfl, rfl⟩
        go_wp2_with fail
        refine (K2.out _).mono ?_
        rintro e w' ⟨rfl, rfl⟩
        go_wp2_with fail
        refine (K3.out _).mono ?_
        rintro e w' ⟨rfl, rfl⟩
        go_wp2_with fail
        refine (K4.out _ _).mono ?_
        rintro e w' ⟨rfl, rfl⟩
        go_wp2_with fail
        go_ret2
        rw [HR.out]
        exact ⟨rfl, rfl⟩
    · have z1 : ((H : Int) == 0) = false := beq_eq_false_iff_ne.2 (by omega)
      have HR : Hid (inR p = (0, 3)) := hid (inR_no (by omega))
      clear ha hb hP hPH g hH0 hp
      go_enter Try.func26, Try.ntmps26
      go_wp2_with fail
      refine (K1.out _).mono ?_
      rintro e w' ⟨rfl, rfl⟩
      go_wp2_with fail
      refine (K2.out _).mono ?_
      rintro e w' ⟨rfl, rfl⟩
      go_wp2_with fail
      refine (K3.out _).mono ?_
      rintro e w' ⟨rfl, rfl⟩
      go_wp2_with fail
      refine (K4.out _ _).mono ?_
      rintro e w' ⟨rfl, rfl⟩
      go_wp2_with fail
      go_ret2
      rw [HR.out]
      exact ⟨rfl, rfl⟩
  · have g := hs2 (by omega)
    clear hs1 hs2
    have d1 : decide (a < 0) = true := by simp; omega
    have d2 : decide (b < 0) = false := by simp; omega
    by_cases hH0 : H = 0
    · have z1 : ((H : Int) == 0) = true := by rw [hH0]; rfl
      by_cases hm : L ≤ 9223372036854775808
      · have z2 : (L : Int) ≤ 9223372036854775808 := by omega
        have HR : Hid (inR p = (p, 0)) := hid (inR_ok (by omega) (by omega))
        have e1 : IntKind.i64.wrap p = p := wrap_of p (by omega) (by omega)
        rw [← hp] at e1
        clear ha hb hP hPH g hH0
        have Hp := hid hp
        clear hp
        go_enter Try.func26, Try.ntmps26
        go_wp2_with fail
        refine (K1.out _).mono ?_
        rintro e w' ⟨rfl, rfl⟩
        go_wp2_with fail
        refine (K2.out _).mono ?_
        rintro e w' ⟨rfl, rfl⟩
        go_wp2_with fail
        refine (K3.out _).mono ?_
        rintro e w' ⟨rfl, rfl⟩
        go_wp2_with fail
        refine (K5.out _ _).mono ?_
        rintro e w' ⟨rfl, rfl⟩
        go_wp2_with fail
        go_ret2
        rw [HR.out, ← Hp.out]
        exact ⟨rfl, rfl⟩
      · have z2 : decide ((L : Int) ≤ 9223372036854775808) = false := decide_eq_false (by omega)
        have HR : Hid (inR p = (0, 3)) := hid (inR_no (by omega))
        clear ha hb hP hPH g hH0 hp
        go_enter Try.func26, Try.ntmps26
        go_wp2_with fail
        refine (K1.out _).mono ?_
        rintro e w' ⟨rfl, rfl⟩
        go_wp2_with fail
        refine (K2.out _).mono ?_
        rintro e w' ⟨rfl, rfl⟩
        go_wp2_with fail
        refine (K3.out _).mono ?_
        rintro e w' ⟨rfl, rfl⟩
        go_wp2_with fail
        refine (K4.out _ _).mono ?_
        rintro e w' ⟨rfl, rfl⟩
        go_wp2_with fail
        go_ret2
        rw [HR.out]
        exact ⟨rfl, rfl⟩
    · have z1 : ((H : Int) == 0) = false := beq_eq_false_iff_ne.2 (by omega)
      have HR : Hid (inR p = (0, 3)) := hid (inR_no (by omega))
      clear ha hb hP hPH g hH0 hp
      go_enter Try.func26, Try.ntmps26
      go_wp2_with fail
      refine (K1.out _).mono ?_
      rintro e w' ⟨rfl, rfl⟩
      go_wp2_with fail
      refine (K2.out _).mono ?_
      rintro e w' ⟨rfl, rfl⟩
      go_wp2_with fail
      refine (K3.out _).mono ?_
      rintro e w' ⟨rfl, rfl⟩
      go_wp2_with fail
      refine (K4.out _ _).mono ?_
      rintro e w' ⟨rfl, rfl⟩
      go_wp2_with fail
      go_ret2
      rw [HR.out]
      exact ⟨rfl, rfl⟩
  · have g := hs1 (by omega)
    clear hs1 hs2
    have d1 : decide (a < 0) = true := by simp; omega
    have d2 : decide (b < 0) = true := by simp; omega
    by_cases hH0 : H = 0
    · have z1 : ((H : Int) == 0) = true := by rw [hH0]; rfl
      by_cases hm : L ≤ 9223372036854775807
      · have z2 : (L : Int) ≤ 9223372036854775807 := by omega
        have HR : Hid (inR p = (p, 0)) := hid (inR_ok (by omega) (by omega))
        have e1 : IntKind.i64.wrap p = p := wrap_of p (by omega) (by omega)
        rw [← hp] at e1
        clear ha hb hP hPH g hH0
        have Hp := hid hp
        clear hp
        go_enter Try.func26, Try.ntmps26
        go_wp2_with fail
        refine (K1.out _).mono ?_
        rintro e w' ⟨rfl, rfl⟩
        go_wp2_with fail
        refine (K2.out _).mono ?_
        rintro e w' ⟨rfl, rfl⟩
        go_wp2_with fail
        refine (K3.out _).mono ?_
        rintro e w' ⟨rfl, rfl⟩
        go_wp2_with fail
        refine (K5.out _ _).mono ?_
        rintro e w' ⟨rfl, rfl⟩
        go_wp2_with fail
        go_ret2
        rw [HR.out, ← Hp.out]
        exact ⟨rfl, rfl⟩
      · have z2 : decide ((L : Int) ≤ 9223372036854775807) = false := decide_eq_false (by omega)
        have HR : Hid (inR p = (0, 3)) := hid (inR_no (by omega))
        clear ha hb hP hPH g hH0 hp
        go_enter Try.func26, Try.ntmps26
        go_wp2_with fail
        refine (K1.out _).mono ?_
        rintro e w' ⟨rfl, rfl⟩
        go_wp2_with fail
        refine (K2.out _).mono ?_
        rintro e w' ⟨rfl, rfl⟩
        go_wp2_with fail
        refine (K3.out _).mono ?_
        rintro e w' ⟨rfl, rfl⟩
        go_wp2_with fail
        refine (K4.out _ _).mono ?_
        rintro e w' ⟨rfl, rfl⟩
        go_wp2_with fail
        go_ret2
        rw [HR.out]
        exact ⟨rfl, rfl⟩
    · have z1 : ((H : Int) == 0) = false := beq_eq_false_iff_ne.2 (by omega)
      have HR : Hid (inR p = (0, 3)) := hid (inR_no (by omega))
      clear ha hb hP hPH g hH0 hp
      go_enter Try.func26, Try.ntmps26
      go_wp2_with fail
      refine (K1.out _).mono ?_
      rintro e w' ⟨rfl, rfl⟩
      go_wp2_with fail
      refine (K2.out _).mono ?_
      rintro e w' ⟨rfl, rfl⟩
      go_wp2_with fail
      refine (K3.out _).mono ?_
      rintro e w' ⟨rfl, rfl⟩
      go_wp2_with fail
      refine (K4.out _ _).mono ?_
      rintro e w' ⟨rfl, rfl⟩
      go_wp2_with fail
      go_ret2
      rw [HR.out]
      exact ⟨rfl, rfl⟩
end Go.Proofs.Yteioiebkielaeaa
