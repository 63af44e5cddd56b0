import Derived.Test.YtgkdnhbhmebmeaaDoorLogI
namespace Go.Proofs.YtgkdnhbhmebmeaaDoor
open Go.RowKit Go.Cov
theorem badE_hit {L : EL} {i : Nat} (hi : i < L.length) (h : 8192 < L[i].2.2.length) : badE L = true := by
  unfold badE
  rw [List.any_eq_true]
  exact ⟨L[i], List.getElem_mem hi, by simpa using h⟩
theorem badE_none {L : EL} (h : ∀ i, (hi : i < L.length) → ¬ 8192 < L[i].2.2.length) : badE L = false := by
  unfold badE
  rw [List.any_eq_false]
  intro x hx
  obtain ⟨i, hi, rfl⟩ := List.getElem_of_mem hx
  simpa using h i hi
set_option maxRecDepth 100000 in
set_option maxHeartbeats 1600000 in
theorem rright_any {s : Int} {A : Option Addr} {c : Nat} {xs : List En} {L : EL} {w : World} (h : Lg w A c xs L) :
    Calls Tryd.prog 44 #[.agg #[.int .i64 s, .slice A xs.length c]] w fun e w' => e = .returned (.bool (rightL s L)) ∧ Below w.heap.size w w' := by
  have hb := below_alloc w (.cells #[.int .i64 s, .slice A xs.length c] 26)
  obtain ⟨w1, hw1⟩ : ∃ w1, w.alloc (.cells #[.int .i64 s, .slice A xs.length c] 26) = w1 := ⟨_, rfl⟩
  have U := hid (Var2.new w (.int .i64 s) (.slice A xs.length c) 26)
  rw [hw1] at hb U
  have HL := hid h.len
  have hrr : rightL s L = (decide (0 ≤ s) && decide (xs.length ≤ 64) && decide (s ≤ 1099511627776 - (xs.length : Int)) && !badE L) := by rw [h.len]; rfl
  obtain ⟨u0, u1, _⟩ := U.out
  by_cases c1 : s < 0
  · have HR := hid (show rightL s L = false by rw [hrr, decide_eq_false (by omega)]; rfl)
    rw [HR.out]
    clear hrr
    go_enter Tryd.func44, Tryd.ntmps44
    go_wp2_with fail
    go_ret
    exact ⟨rfl, hb⟩
  · by_cases c2 : 64 < xs.length
    · have j2 : (64 : Int) < xs.length := by omega
      have HR := hid (show rightL s L = false by rw [hrr, decide_eq_false (show ¬ xs.length ≤ 64 by omega), Bool.and_false]; rfl)
      rw [HR.out]
      clear hrr
      go_enter Tryd.func44, Tryd.ntmps44
      go_wp2_with fail
      go_ret
      exact ⟨rfl, hb⟩
    · have j2 : ¬ (64 : Int) < xs.length := by omega
      have e1 : IntKind.i64.wrap (1099511627776 - (xs.length : Int)) = 1099511627776 - (xs.length : Int) := wrap_of _ (by omega) (by omega)
      by_cases c3 : 1099511627776 - (xs.length : Int) < s
      · have HR := hid (show rightL s L = false by rw [hrr, decide_eq_false (show ¬ s ≤ 1099511627776 - (xs.length : Int) by omega), Bool.and_false]; rfl)
        rw [HR.out]
        clear hrr
        go_enter Tryd.func44, Tryd.ntmps44
        go_wp2_with fail
        go_ret
        exact ⟨rfl, hb⟩
      · have hrb : rightL s L = !badE L := by rw [hrr, decide_eq_true (by omega), decide_eq_true (by omega), decide_eq_true (by omega)]; rfl
        have HR := hid hrb
        clear hrr hrb
        go_enter Tryd.func44, Tryd.ntmps44
        go_wp2_with fail
        go_loopw [3] (fun i W => ∃ k : Nat, k ≤ xs.length ∧ i = .int .i64 k ∧ (∀ j, (hj : j < L.length) → j < k → ¬ 8192 < L[j].2.2.length) ∧ Below w1.heap.size w1 W) (fun i _ => xs.length - (intOf i).toNat)
        case atStart => exact ⟨0, by omega, rfl, fun j hj hk => by omega, Below.refl _ _⟩
        case round =>
          obtain ⟨k, hk, rfl, hf, hbr⟩ := hrel
          obtain ⟨u0, u1, _⟩ := U.out.on hbr
          by_cases hlt : k < xs.length
          · have i1 : (k : Int) < xs.length := by omega
            have hkL : k < L.length := by have := HL.out; omega
            have hxd := en_data_at h.2.2 k hlt hkL
            obtain ⟨ad, rfl, h1, h2, h3, _⟩ := en_at (h.below (below_step hb hbr)).1 k hlt
            have hxo : L[k].2.2 = xs[k].op := by rw [hxd]; rfl
            have HXO := hid hxo
            have HF := hid hf
            clear hxd hxo hf
            generalize xs[k] = x at h1 h2 h3 HXO
            by_cases c4 : 8192 < x.op.length
            · have j4 : (8192 : Int) < x.op.length := by omega
              have HV := hid (show rightL s L = false by rw [HR.out, badE_hit hkL (by rw [HXO.out]; exact c4)]; rfl)
              clear c4
              go_wp2_with fail
              go_ret
              exact ⟨by rw [HV.out]; rfl, below_step hb hbr⟩
            · have j4 : ¬ (8192 : Int) < x.op.length := by omega
              have HC := hid c4
              clear c4
              go_wp2_with fail
              go_roundw
              case rel => exact ⟨k + 1, by omega, by go_num, fun j hj hjk => by
                by_cases hjj : j = k
                · subst hjj; rw [HXO.out]; exact HC.out
                · exact HF.out j hj (by omega), hbr⟩
              case measure => simp [intOf]; omega
          · obtain rfl : k = xs.length := by omega
            have HV := hid (show rightL s L = true by rw [HR.out, badE_none fun i hi => hf i hi (by have := HL.out; omega)]; rfl)
            clear hf
            go_wp2_with fail
            go_ret
            exact ⟨by rw [HV.out]; rfl, below_step hb hbr⟩
end Go.Proofs.YtgkdnhbhmebmeaaDoor
