import Derived.Test.YtnkocbdbfkhgmaaDoorCodeN
/-! CodeSigns: a sign's number is that whose sign it is, and no two have one. -/
namespace Go.Proofs.YtnkocbdbfkhgmaaDoor
open Go.RowKit Go.Cov
theorem sg_facts : ∀ k : Fin 13, (k.val = 0 ∧ sg.getD k.val [] = []) ∨ (k.val ≠ 0 ∧ sg.getD k.val [] ≠ [] ∧ numD (sg.getD k.val []) = k.val ∧ ∀ j : Fin 13, sg.getD j.val [] = sg.getD k.val [] → j = k) := by decide +kernel
theorem sign_out {a : Int} (h : ¬ (1 ≤ a ∧ a ≤ 12)) : signD a = [] := by
  unfold signD
  by_cases h2 : 0 ≤ a ∧ a < 13
  · rw [if_pos h2, show a.toNat = 0 by omega]; rfl
  · rw [if_neg h2]
theorem sign_in {a : Int} (h : 1 ≤ a ∧ a ≤ 12) : signD a ≠ [] ∧ numD (signD a) = a ∧ ∀ b, signD b = signD a → b = a := by
  have hk : a.toNat < 13 := by omega
  rcases sg_facts ⟨a.toNat, hk⟩ with ⟨h0, _⟩ | ⟨_, h2, h3, h4⟩
  · exact absurd h0 (by show a.toNat ≠ 0; omega)
  · have e : signD a = sg.getD a.toNat [] := by unfold signD; rw [if_pos (by omega)]
    refine ⟨by rw [e]; exact h2, by rw [e]; exact h3.trans (by show ((a.toNat : Nat) : Int) = a; omega), fun b hb => ?_⟩
    by_cases hb2 : 0 ≤ b ∧ b < 13
    · have e2 : signD b = sg.getD b.toNat [] := by unfold signD; rw [if_pos hb2]
      have := h4 ⟨b.toNat, by omega⟩ (by rw [← e, ← hb, e2])
      have := congrArg Fin.val this
      have : b.toNat = a.toNat := this
      omega
    · have e2 : signD b = [] := by unfold signD; rw [if_neg hb2]
      rw [e2, e] at hb
      exact absurd hb.symm h2
set_option maxRecDepth 100000 in
set_option maxHeartbeats 6400000 in
theorem signs_law (a b : Int) {w : World} (ht : STab w) :
    Calls Tryd.prog 6 #[.int .i64 a, .int .i64 b] w fun e w' => e = .returned (.bool true) ∧ Below w.heap.size w w' := by
  replace ht := hid ht
  go_enter Tryd.func6, Tryd.ntmps6
  go_wp2_with fail
  refine (head_any w ht.out).mono ?_
  rintro e w2 ⟨rfl, hb2⟩
  have ht2 := hid (ht.out.below hb2)
  clear ht
  have KA := hid (sign_any ht2.out a)
  have KB := hid (sign_any ht2.out b)
  by_cases ha : 1 ≤ a ∧ a ≤ 12
  · obtain ⟨s1, s2, s3⟩ := sign_in ha
    have KN := number_any ht2.out (signD a)
    rw [s2] at KN
    have f1 := s3 b
    generalize signD a = s at *
    generalize signD b = t at *
    have q1 : decide (s = []) = false := decide_eq_false s1
    have q2 := str_beq s []
    rw [q1] at q2
    have g1 : decide (1 ≤ a) = true := decide_eq_true ha.1
    have g2 : decide (a ≤ 12) = true := decide_eq_true ha.2
    have q3 := str_beq s t
    replace KN := hid KN
    replace s3 := hid s3
    have s1' := s1
    clear ha s1 s2 q1
    have q4 : (str s).toList.isEmpty = false := by rw [toList_str]; cases s; exact absurd rfl s1'; rfl
    clear q2 s1'
    by_cases hst : s = t
    · have hba := f1 hst.symm
      rw [decide_eq_true hst] at q3
      subst hba
      clear f1 hst s3
      go_wp2_with fail
      refine KA.out.mono ?_
      rintro e w3 ⟨rfl, rfl⟩
      go_wp2_with fail
      refine KB.out.mono ?_
      rintro e w3 ⟨rfl, rfl⟩
      go_wp2_with fail
      refine KN.out.mono ?_
      rintro e w3 ⟨rfl, rfl⟩
      go_wp2_with fail
      go_ret
      exact ⟨rfl, hb2⟩
    · rw [decide_eq_false hst] at q3
      clear f1 hst s3
      go_wp2_with fail
      refine KA.out.mono ?_
      rintro e w3 ⟨rfl, rfl⟩
      go_wp2_with fail
      refine KB.out.mono ?_
      rintro e w3 ⟨rfl, rfl⟩
      go_wp2_with fail
      refine KN.out.mono ?_
      rintro e w3 ⟨rfl, rfl⟩
      go_wp2_with fail
      go_ret
      exact ⟨rfl, hb2⟩
  · rw [sign_out ha, show str [] = ⟨#[]⟩ from rfl] at KA
    generalize signD b = t at KB
    clear ht2
    by_cases h1 : 1 ≤ a
    · have g1 : decide (1 ≤ a) = true := decide_eq_true h1
      have g2 : decide (a ≤ 12) = false := decide_eq_false (fun hh => ha ⟨h1, hh⟩)
      clear ha h1
      go_wp2_with fail
      refine KA.out.mono ?_
      rintro e w3 ⟨rfl, rfl⟩
      go_wp2_with fail
      refine KB.out.mono ?_
      rintro e w3 ⟨rfl, rfl⟩
      go_wp2_with fail
      go_ret
      exact ⟨rfl, hb2⟩
    · have g1 : decide (1 ≤ a) = false := decide_eq_false h1
      clear ha h1
      go_wp2_with fail
      refine KA.out.mono ?_
      rintro e w3 ⟨rfl, rfl⟩
      go_wp2_with fail
      refine KB.out.mono ?_
      rintro e w3 ⟨rfl, rfl⟩
      go_wp2_with fail
      go_ret
      exact ⟨rfl, hb2⟩
end Go.Proofs.YtnkocbdbfkhgmaaDoor
