/-
  The walk of the law OplogParts.
-/
import Derived.Test.YtbfjhclibbonjaaLogI
namespace Go.Proofs.Ytbfjhclibbonjaa
open Go.RowKit Go.Cov
theorem var2_other {w : World} {b b' : Nat} {x y : Value} (h : Var2 w b' x y) (hne : b' ≠ b) (p q : Value) : Var2 ((w.setCell ⟨b, 0, none⟩ p).setCell ⟨b, 1, none⟩ q) b' x y := by
  obtain ⟨h0, h1, f0, f1, hz⟩ := h
  have n : ∀ i j, (⟨b, i, none⟩ : Addr) ≠ ⟨b', j, none⟩ := fun i j e => by injection e with e _; exact hne e.symm
  refine ⟨?_, ?_, by rw [World.frozen?_setCell, World.frozen?_setCell]; exact f0, by rw [World.frozen?_setCell, World.frozen?_setCell]; exact f1, by simpa using hz⟩
  · rw [World.cell?_setCell_other _ _ _ _ (n _ _), World.cell?_setCell_other _ _ _ _ (n _ _)]; exact h0
  · rw [World.cell?_setCell_other _ _ _ _ (n _ _), World.cell?_setCell_other _ _ _ _ (n _ _)]; exact h1
theorem badE_at {L : EL} (h : badE L = false) {i : Nat} (hi : i < L.length) : ¬ 8192 < L[i].2.2.length := fun hb => by
  unfold badE at h
  have := List.any_eq_false.1 h L[i] (List.getElem_mem hi)
  simp at this
  omega
theorem badE_take {L : EL} (h : badE L = false) (i : Nat) : badE (L.take i) = false := by
  unfold badE at h ⊢
  rw [List.any_eq_false] at h ⊢
  exact fun x hx => h x (List.mem_of_mem_take hx)
theorem badE_drop {L : EL} (h : badE L = false) (i : Nat) : badE (L.drop i) = false := by
  unfold badE at h ⊢
  rw [List.any_eq_false] at h ⊢
  exact fun x hx => h x (List.mem_of_mem_drop hx)
theorem app_next {s : Int} {L : EL} (h : rightL s L = true) {k : Nat} (hk : k < L.length) : appR s (L.take k) L[k] = (s, L.take (k + 1), 0) := by
  obtain ⟨h1, h2, h3, h4⟩ := rightL_iff.1 h
  have hl : (L.take k).length = k := by rw [List.length_take]; omega
  have hr : rightL s (L.take k) = true := rightL_iff.2 ⟨h1, by omega, by rw [hl]; omega, badE_take h4 k⟩
  unfold appR
  rw [if_pos hr, if_neg (fun hc => by
    rw [hl] at hc
    rcases hc with hc | hc | hc
    · omega
    · omega
    · exact badE_at h4 hk hc), List.take_add_one, List.getElem?_eq_getElem hk]
  rfl
theorem right_drop {s n : Int} {L : EL} (h : rightL s L = true) {i : Nat} (hi : i ≤ L.length) (hn : n = s + i) : rightL n (L.drop i) = true := by
  obtain ⟨h1, h2, h3, h4⟩ := rightL_iff.1 h
  have hl : (L.drop i).length = L.length - i := by rw [List.length_drop]
  exact rightL_iff.2 ⟨by omega, by omega, by omega, badE_drop h4 i⟩
theorem end_drop {s n : Int} {L : EL} (h : rightL s L = true) {i : Nat} (hi : i ≤ L.length) (hn : n = s + i) : endL n (L.drop i) = s + L.length := by
  rw [endL, if_pos (right_drop h hi hn), List.length_drop]
  omega
theorem atE_of {s m : Int} {L : EL} (h : rightL s L = true) {k : Nat} (hm : m = s + k + 1) (hk : k < L.length) : atE s L m = some L[k] := by
  have : atL s L m = some (k + 1) := by
    unfold atL
    rw [if_pos ⟨h, by omega, by omega⟩]
    congr 1
    omega
  rw [atE_some this, List.getElem?_eq_getElem hk]
theorem atE_out {s m : Int} {L : EL} (h : ¬ (s < m ∧ m ≤ s + L.length)) : atE s L m = none := by
  rcases atL_cases s L m with ha | ⟨i, ha, hm, hi, _⟩
  · exact atE_none ha
  · cases i with
    | zero => exact atE_zero ha
    | succ i => exact absurd ⟨by omega, by omega⟩ h
theorem parts_at {s n : Int} {L : EL} (h : rightL s L = true) {i : Nat} (hi : i ≤ L.length) (hn : n = s + i) (m : Int) :
    (∃ d, atE n (L.drop i) m = some d ∧ atE s L m = some d ∧ n < m) ∨ (atE n (L.drop i) m = none ∧ atE s L m = none) ∨ (atE n (L.drop i) m = none ∧ (∃ d, atE s L m = some d) ∧ ¬ n < m) := by
  have hl : (L.drop i).length = L.length - i := by rw [List.length_drop]
  by_cases h1 : s < m ∧ m ≤ s + L.length
  · obtain ⟨k, hk⟩ : ∃ k : Nat, m = s + k + 1 := ⟨(m - s - 1).toNat, by omega⟩
    have hkl : k < L.length := by omega
    have hs := atE_of h hk hkl
    by_cases h2 : n < m
    · refine .inl ⟨L[k], ?_, hs, h2⟩
      have := atE_of (right_drop h hi hn) (k := k - i) (m := m) (by omega) (by omega)
      rw [this]
      congr 1
      rw [List.getElem_drop]
      congr 1
      omega
    · exact .inr (.inr ⟨atE_out (fun hh => h2 hh.1), ⟨_, hs⟩, h2⟩)
  · exact .inr (.inl ⟨atE_out (fun hh => h1 ⟨by omega, by omega⟩), atE_out h1⟩)
set_option maxRecDepth 100000 in
set_option maxHeartbeats 12800000 in
theorem parts_law {s : Int} {A : Option Addr} {c : Nat} {xs : List En} {L : EL} {w : World} (h : Lg w A c xs L) (n m : Int) :
    Calls Try.prog 6 #[.agg #[.int .i64 s, .slice A xs.length c], .int .i64 n, .int .i64 m] w fun e w' => e = .returned (.bool true) ∧ Below w.heap.size w w' := by
  have U := hid (Var2.new w (.int .i64 s) (.slice A xs.length c) 26)
  have b1 := below_alloc w (.cells #[.int .i64 s, .slice A xs.length c] 26)
  obtain ⟨w1, hw1⟩ : ∃ w1, w.alloc (.cells #[.int .i64 s, .slice A xs.length c] 26) = w1 := ⟨_, rfl⟩
  rw [hw1] at U b1
  have kt := fun W (hW : Below w.heap.size w W) => trim_any (s := s) (h.below hW) n
  have kf := fun W (hW : Below w.heap.size w W) => from_any (s := s) (h.below hW) n
  have kc := fun W (hW : Below w.heap.size w W) => cut_any (s := s) (h.below hW) n
  have hlen := h.len
  have HL := hid hlen
  have hg : xs.length ≤ 1000 ∨ 1000 < xs.length := by omega
  rcases hg with hg | hg
  · have g1 : ¬ (1000 : Int) < xs.length := by omega
    rcases atL_cases s L n with ha | ⟨i, ha, hn, hi, hr⟩
    · rw [show trimR s L n = (0, [], 1) by rw [trimR, ha]] at kt
      rw [show cutR s L n = (0, [], 1) by rw [cutR, ha]] at kc
      rw [ha] at kf
      have KT := hid kt
      have KF := hid kf
      have KC := hid kc
      clear kt kf kc ha hlen
      go_enter Try.func6, Try.ntmps6
      go_wp2_with fail
      refine (head_any w1).mono ?_
      rintro e w2 ⟨rfl, hb2⟩
      obtain ⟨u0, u1, _⟩ := U.out.on hb2
      have b2 := below_step b1 hb2
      go_wp2_with fail
      refine great_any.mono ?_
      rintro e w3 ⟨rfl, hb3⟩
      have b13 := below_step hb2 hb3
      have b3 := below_step b2 hb3
      obtain ⟨u0, u1, _⟩ := U.out.on b13
      go_wp2_with fail
      refine (KT.out _ b3).mono ?_
      rintro e w4 ⟨C4, q4, ts, rfl, _, hb4⟩
      have hb5 := below_step hb4 (below_alloc w4 (.cells #[.int .i64 0, .slice C4 ts.length q4] 26))
      have b15 := below_step b13 hb5
      have b5 := below_step b3 hb5
      obtain ⟨u0, u1, _⟩ := U.out.on b15
      go_wp2_with fail
      refine (KF.out _ b5).mono ?_
      rintro e w6 ⟨C6, q6, us, rfl, _, _, hb6⟩
      have b16 := below_step b15 hb6
      have b6 := below_step b5 hb6
      obtain ⟨u0, u1, _⟩ := U.out.on b16
      go_wp2_with fail
      refine (KC.out _ b6).mono ?_
      rintro e w7 ⟨C7, q7, cs, rfl, _, _, hb7⟩
      go_wp2_with fail
      go_ret
      exact ⟨rfl, below_step (below_step b6 hb7) (below_alloc _ _)⟩
    · rw [show trimR s L n = (s, L.take i, 0) by rw [trimR, ha]] at kt
      rw [show cutR s L n = (n, L.drop i, 0) by rw [cutR, ha]] at kc
      rw [show fromL s L n = L.drop i by rw [fromL, ha]; rfl, ha] at kf
      have KT := hid kt
      have KF := hid kf
      have KC := hid kc
      have HR := hid hr
      have HI := hid hi
      have HN := hid hn
      have H := hid (fun W (hW : Below w.heap.size w W) => h.below hW)
      clear kt kf kc ha hlen hr hi hn
      go_enter Try.func6, Try.ntmps6
      go_wp2_with fail
      refine (head_any w1).mono ?_
      rintro e w2 ⟨rfl, hb2⟩
      obtain ⟨u0, u1, _⟩ := U.out.on hb2
      have b2 := below_step b1 hb2
      go_wp2_with fail
      refine great_any.mono ?_
      rintro e w3 ⟨rfl, hb3⟩
      have b13 := below_step hb2 hb3
      have b3 := below_step b2 hb3
      obtain ⟨u0, u1, _⟩ := U.out.on b13
      go_wp2_with fail
      refine (KT.out _ b3).mono ?_
      rintro e w4 ⟨C4, q4, ts, rfl, hts, hb4⟩
      have ha5 := below_alloc w4 (.cells #[.int .i64 s, .slice C4 ts.length q4] 26)
      have T := hid (Var2.new w4 (.int .i64 s) (.slice C4 ts.length q4) 26)
      obtain ⟨w5, hw5⟩ : ∃ w5, w4.alloc (.cells #[.int .i64 s, .slice C4 ts.length q4] 26) = w5 := ⟨_, rfl⟩
      rw [hw5] at ha5 T
      have hb5 := below_step hb4 ha5
      have b15 := below_step b13 hb5
      have b5 := below_step b3 hb5
      have hts5 := hts.below ha5
      obtain ⟨u0, u1, _⟩ := U.out.on b15
      clear hts
      go_wp2_with fail
      refine (KF.out _ b5).mono ?_
      rintro e w6 ⟨C6, q6, us, rfl, hus, hn6, hb6⟩
      have b16 := below_step b15 hb6
      have b6 := below_step b5 hb6
      obtain ⟨u0, u1, _⟩ := U.out.on b16
      go_wp2_with fail
      refine (KC.out _ b6).mono ?_
      rintro e w7 ⟨C7, q7, cs, rfl, hcs, hn7, hb7⟩
      have ha8 := below_alloc w7 (.cells #[.int .i64 n, .slice C7 cs.length q7] 26)
      have V := hid (Var2.new w7 (.int .i64 n) (.slice C7 cs.length q7) 26)
      obtain ⟨w8, hw8⟩ : ∃ w8, w7.alloc (.cells #[.int .i64 n, .slice C7 cs.length q7] 26) = w8 := ⟨_, rfl⟩
      rw [hw8] at ha8 V
      have hb8 := below_step hb7 ha8
      have b18 := below_step b16 hb8
      have b8 := below_step b6 hb8
      have b58 := below_step hb6 hb8
      have U8 := U.out.on b18
      have T8 := T.out.on b58
      have V8 := V.out
      have hts8 := hts5.below b58
      have hus8 := hus.below hb8
      have hcs8 := hcs.below ha8
      obtain ⟨bt, hbt⟩ : ∃ bt, bt = w4.heap.size := ⟨_, rfl⟩
      obtain ⟨bc, hbc⟩ : ∃ bc, bc = w7.heap.size := ⟨_, rfl⟩
      have t5 : bt < w5.heap.size := by have := T.out.2.2.2.2; omega
      have ne6 : ∀ ad, C6 = some ad → ad.block ≠ bt := fun ad hA => by have := hn6 ad hA; omega
      have ne7 : ∀ ad, C7 = some ad → ad.block ≠ bt := fun ad hA => by have := hn7 ad hA; have := hb6.size; omega
      have neU : w.heap.size ≠ bt := by have := b3.size; have := hb4.size; have := b1.size; have := U.out.2.2.2.2; have := b13.size; omega
      have neV : bc ≠ bt := by have := hb6.size; have := hb7.size; omega
      have wbt : w.heap.size ≤ bt := by have := b3.size; have := hb4.size; omega
      have HUL := hid hus.len
      have hus1000 : us.length ≤ 1000 := by have h1 := hus.len; rw [List.length_drop] at h1; have := HL.out; omega
      rw [← hbt] at T8
      rw [← hbc] at V8
      clear hts5 hus hcs hn6 hn7 u0 u1 U T V
      go_wp2_with fail
      rw [← hbt, ← hbc]
      clear hbt hbc hw5 hw8 hw1
      go_loopw [14] (fun iv W => ∃ (j : Nat) (C : Option Addr) (q : Nat) (ys : List En), j ≤ us.length ∧ iv = .int .i64 j ∧ (Var2 W bt (.int .i64 s) (.slice C ys.length q) ∧ Lg W C q ys (L.take (i + j))) ∧ (Var2 W w.heap.size (.int .i64 s) (.slice A xs.length c) ∧ Var2 W bc (.int .i64 n) (.slice C7 cs.length q7)) ∧ (Lg W C6 q6 us (L.drop i) ∧ Lg W C7 q7 cs (L.drop i)) ∧ Below w.heap.size w W) (fun iv _ => us.length - (intOf iv).toNat)
      case atStart => exact ⟨0, C4, q4, ts, Nat.zero_le _, rfl, ⟨T8, hts8⟩, ⟨U8, V8⟩, ⟨hus8, hcs8⟩, b8⟩
      case round =>
        obtain ⟨j, C, q, ys, hj, rfl, ⟨hT, hY⟩, ⟨hU, hV⟩, ⟨hR, hC⟩, hb⟩ := hrel
        by_cases hlt : j < us.length
        · have i1 : (j : Int) < us.length := by omega
          obtain ⟨ad, rfl, h1, h2, h3, _⟩ := en_at hR.1 j hlt
          have hkl : i + j < L.length := by have := HUL.out; rw [List.length_drop] at this; omega
          have hxd : us[j].data = L[i + j] := by
            have := en_data_at hR.2.2 j hlt (by rw [List.length_drop]; omega)
            rw [List.getElem_drop] at this
            exact this.symm
          have hsl := hR.1.2 us[j] (List.getElem_mem hlt) (us[j].val, us[j].op) (by simp [enEl])
          have ka := append_any (s := s) (hY.below (Below.refl wr.heap.size wr).drew) us[j] (hsl.keep (fun p u hp => cell_on (Below.refl wr.heap.size wr).drew hp))
          rw [hxd, app_next HR.out hkl] at ka
          unfold En.agg at ka
          generalize us[j] = x at h1 h2 h3 ka
          have KA := hid ka
          have bd := (Below.refl wr.heap.size wr).drew
          obtain ⟨v0, v1, _⟩ := id hT
          have HT := hid hT
          have tlt := hT.2.2.2.2
          clear hsl hxd ka hkl hT
          go_upto_region 14 with fail
          refine wp_region_noPanic ?_
          refine wp_region_held_drew (S := (fun W => Below bt wr W)) (by kernel_rfl) ?_ (fun hHeld => ?_)
          · exact (Below.refl _ _).drew
          refine wpAnyH_take (i := 1) (oi := ?oi1) (v := ?v1) ?hi1 (by kernel_rfl) (by kernel_rfl) (by kernel_rfl) ?hQ1 ?hy1 (by assumption) ?hrest1
          case hi1 => (simp only [List.getElem?_toArray, List.getElem?_cons_succ, List.getElem?_cons_zero]; try rfl)
          case hQ1 => exact fun _ _ _ h => h
          case hy1 =>
            refine Or.inl ⟨by rfl, ?_⟩
            (intro wq hSw; (try dsimp only at hSw); go_simp; try with_reducible rfl)
          (try simp only [Act.put, List.setIfInBounds_toArray, List.set_cons_zero, List.set_cons_succ])
          refine wpAnyH_take (i := 2) (oi := ?oi2) (v := ?v2) ?hi2 (by kernel_rfl) (by kernel_rfl) (by kernel_rfl) ?hQ2 ?hy2 (by assumption) ?hrest2
          case hi2 => (simp only [List.getElem?_toArray, List.getElem?_cons_succ, List.getElem?_cons_zero]; try rfl)
          case hQ2 => exact fun _ _ _ h => h
          case hy2 =>
            refine Or.inl ⟨by rfl, ?_⟩
            (intro wq hSw; (try dsimp only at hSw); go_simp; try with_reducible rfl)
          (try simp only [Act.put, List.setIfInBounds_toArray, List.set_cons_zero, List.set_cons_succ])
          refine wpAnyH_take (i := 3) (oi := ?oi3) (v := ?v3) ?hi3 (by kernel_rfl) (by kernel_rfl) (by kernel_rfl) ?hQ3 ?hy3 (by assumption) ?hrest3
          case hi3 => (simp only [List.getElem?_toArray, List.getElem?_cons_succ, List.getElem?_cons_zero]; try rfl)
          case hQ3 => exact fun _ _ _ h => h
          case hy3 =>
            refine Or.inl ⟨by rfl, ?_⟩
            (intro wq hSw; (try dsimp only at hSw); go_simp; try with_reducible rfl)
          (try simp only [Act.put, List.setIfInBounds_toArray, List.set_cons_zero, List.set_cons_succ])
          refine wpAnyH_ready (rs := [0, 4]) (by kernel_rfl) (by simp) ?_
          refine AllReadyH.cons (o := ?oi4) ?hi4 (fun K hK => ?hstep4) ?hmore4
          case hi4 => (simp only [List.getElem?_toArray, List.getElem?_cons_zero]; try rfl)
          case hstep4 =>
            go_simp
            (skip)
            refine hK.out _ _ ?_ (fun hHeld => ?_)
            · exact hHeld
            clear hK K
            (try simp only [Act.put, List.setIfInBounds_toArray, List.set_cons_zero, List.set_cons_succ])
            refine wpAnyH_ready (rs := [4]) (by kernel_rfl) (by simp) ?_
            refine AllReadyH.cons (o := ?oi5) ?hi5 (fun K hK => ?hstep5) AllReadyH.nil
            case hi5 => (simp only [List.getElem?_toArray, List.getElem?_cons_succ, List.getElem?_cons_zero]; try rfl)
            go_simp
            (skip)
            refine hK.out _ _ ?_ (fun hHeld => ?_)
            · exact hHeld
            clear hK K
            (try simp only [Act.put, List.setIfInBounds_toArray, List.set_cons_zero, List.set_cons_succ])
            refine wpAnyH_ready (rs := [5]) (by kernel_rfl) (by simp) ?_
            refine AllReadyH.cons (o := ?oi6) ?hi6 (fun K hK => ?hstep6) AllReadyH.nil
            case hi6 => (simp only [List.getElem?_toArray, List.getElem?_cons_succ, List.getElem?_cons_zero]; try rfl)
            go_simp
            (refine KA.out.mono ?_; rintro e wx ⟨D, d, zs, rfl, hlz, hD, hbx⟩; have bx := below_step bd hbx; have hTx := HT.out.on bx; obtain ⟨v0, v1, f0, f1, _⟩ := id hTx; have neD : ∀ ad, D = some ad → ad.block ≠ bt := (fun ad hA => by have hh := hD ad hA; have hh2 := bd.size; omega))
            refine hK.out _ _ ?_ (fun hHeld => ?_)
            · exact hHeld.trans (hbx.mono (by have := hHeld.size; omega))
            clear hK K
            (try dsimp only)
            refine wpAnyH_take (i := 6) (oi := ?oi7) (v := ?v7) ?hi7 (by kernel_rfl) (by kernel_rfl) (by kernel_rfl) ?hQ7 ?hy7 (by assumption) ?hrest7
            case hi7 => (simp only [List.getElem?_toArray, List.getElem?_cons_succ, List.getElem?_cons_zero]; try rfl)
            case hQ7 => exact fun _ _ _ h => h
            case hy7 =>
              refine Or.inl ⟨by rfl, ?_⟩
              (intro wq hSw; (try dsimp only at hSw); go_simp; try with_reducible rfl)
            (try simp only [Act.put, List.setIfInBounds_toArray, List.set_cons_zero, List.set_cons_succ])
            refine wpAnyH_take (i := 7) (oi := ?oi8) (v := ?v8) ?hi8 (by kernel_rfl) (by kernel_rfl) (by kernel_rfl) ?hQ8 ?hy8 (by assumption) ?hrest8
            case hi8 => (simp only [List.getElem?_toArray, List.getElem?_cons_succ, List.getElem?_cons_zero]; try rfl)
            case hQ8 => exact fun _ _ _ h => h
            case hy8 =>
              refine Or.inl ⟨by rfl, ?_⟩
              (intro wq hSw; (try dsimp only at hSw); go_simp; try with_reducible rfl)
            (try simp only [Act.put, List.setIfInBounds_toArray, List.set_cons_zero, List.set_cons_succ])
            refine wpAnyH_take (i := 8) (oi := ?oi9) (v := ?v9) ?hi9 (by kernel_rfl) (by kernel_rfl) (by kernel_rfl) ?hQ9 ?hy9 (by assumption) ?hrest9
            case hi9 => (simp only [List.getElem?_toArray, List.getElem?_cons_succ, List.getElem?_cons_zero]; try rfl)
            case hQ9 => exact fun _ _ _ h => h
            case hy9 =>
              refine Or.inl ⟨by rfl, ?_⟩
              (intro wq hSw; (try dsimp only at hSw); go_simp; try with_reducible rfl)
            (try simp only [Act.put, List.setIfInBounds_toArray, List.set_cons_zero, List.set_cons_succ])
            refine wpAnyH_ready (rs := [9]) (by kernel_rfl) (by simp) ?_
            refine AllReadyH.cons (o := ?oi10) ?hi10 (fun K hK => ?hstep10) AllReadyH.nil
            case hi10 => (simp only [List.getElem?_toArray, List.getElem?_cons_succ, List.getElem?_cons_zero]; try rfl)
            go_simp
            (skip)
            refine hK.out _ _ ?_ (fun hHeld => ?_)
            · exact (hHeld.setCell (p := ⟨bt, 0, none⟩) (Nat.le_refl _) _).setCell (p := ⟨bt, 1, none⟩) (Nat.le_refl _) _
            clear hK K
            (try simp only [Act.put, List.setIfInBounds_toArray, List.set_cons_zero, List.set_cons_succ])
            refine wpAnyH_take (i := 10) (oi := ?oi11) (v := ?v11) ?hi11 (by kernel_rfl) (by kernel_rfl) (by kernel_rfl) ?hQ11 ?hy11 (by assumption) ?hrest11
            case hi11 => (simp only [List.getElem?_toArray, List.getElem?_cons_succ, List.getElem?_cons_zero]; try rfl)
            case hQ11 => exact fun _ _ _ h => h
            case hy11 =>
              refine Or.inl ⟨by rfl, ?_⟩
              (intro wq hSw; (try dsimp only at hSw); go_simp; try with_reducible rfl)
            (try simp only [Act.put, List.setIfInBounds_toArray, List.set_cons_zero, List.set_cons_succ])
            refine wpAnyH_done (by kernel_rfl) ?_ _
            refine NoPanic.normal ?_
            (go_wp2_with fail; go_roundw; (case rel => exact ⟨j + 1, D, d, zs, by omega, by go_num, ⟨var2_set hTx _ _, hlz.set hTx neD _ _⟩, ⟨var2_other (hU.on bx) neU _ _, var2_other (hV.on bx) neV _ _⟩, ⟨(hR.below bx).set hTx ne6 _ _, (hC.below bx).set hTx ne7 _ _⟩, hb.trans (hHeld.mono wbt)⟩); (case measure => simp [intOf]; omega))
          refine AllReadyH.cons (o := ?oi12) ?hi12 (fun K hK => ?hstep12) ?hmore12
          case hi12 => (simp only [List.getElem?_toArray, List.getElem?_cons_succ, List.getElem?_cons_zero]; try rfl)
          case hstep12 =>
            go_simp
            (skip)
            refine hK.out _ _ ?_ (fun hHeld => ?_)
            · exact hHeld
            clear hK K
            (try simp only [Act.put, List.setIfInBounds_toArray, List.set_cons_zero, List.set_cons_succ])
            refine wpAnyH_ready (rs := [0]) (by kernel_rfl) (by simp) ?_
            refine AllReadyH.cons (o := ?oi13) ?hi13 (fun K hK => ?hstep13) AllReadyH.nil
            case hi13 => (simp only [List.getElem?_toArray, List.getElem?_cons_zero]; try rfl)
            go_simp
            (skip)
            refine hK.out _ _ ?_ (fun hHeld => ?_)
            · exact hHeld
            clear hK K
            (try simp only [Act.put, List.setIfInBounds_toArray, List.set_cons_zero, List.set_cons_succ])
            refine wpAnyH_ready (rs := [5]) (by kernel_rfl) (by simp) ?_
            refine AllReadyH.cons (o := ?oi14) ?hi14 (fun K hK => ?hstep14) AllReadyH.nil
            case hi14 => (simp only [List.getElem?_toArray, List.getElem?_cons_succ, List.getElem?_cons_zero]; try rfl)
            go_simp
            (refine KA.out.mono ?_; rintro e wx ⟨D, d, zs, rfl, hlz, hD, hbx⟩; have bx := below_step bd hbx; have hTx := HT.out.on bx; obtain ⟨v0, v1, f0, f1, _⟩ := id hTx; have neD : ∀ ad, D = some ad → ad.block ≠ bt := (fun ad hA => by have hh := hD ad hA; have hh2 := bd.size; omega))
            refine hK.out _ _ ?_ (fun hHeld => ?_)
            · exact hHeld.trans (hbx.mono (by have := hHeld.size; omega))
            clear hK K
            (try dsimp only)
            refine wpAnyH_take (i := 6) (oi := ?oi15) (v := ?v15) ?hi15 (by kernel_rfl) (by kernel_rfl) (by kernel_rfl) ?hQ15 ?hy15 (by assumption) ?hrest15
            case hi15 => (simp only [List.getElem?_toArray, List.getElem?_cons_succ, List.getElem?_cons_zero]; try rfl)
            case hQ15 => exact fun _ _ _ h => h
            case hy15 =>
              refine Or.inl ⟨by rfl, ?_⟩
              (intro wq hSw; (try dsimp only at hSw); go_simp; try with_reducible rfl)
            (try simp only [Act.put, List.setIfInBounds_toArray, List.set_cons_zero, List.set_cons_succ])
            refine wpAnyH_take (i := 7) (oi := ?oi16) (v := ?v16) ?hi16 (by kernel_rfl) (by kernel_rfl) (by kernel_rfl) ?hQ16 ?hy16 (by assumption) ?hrest16
            case hi16 => (simp only [List.getElem?_toArray, List.getElem?_cons_succ, List.getElem?_cons_zero]; try rfl)
            case hQ16 => exact fun _ _ _ h => h
            case hy16 =>
              refine Or.inl ⟨by rfl, ?_⟩
              (intro wq hSw; (try dsimp only at hSw); go_simp; try with_reducible rfl)
            (try simp only [Act.put, List.setIfInBounds_toArray, List.set_cons_zero, List.set_cons_succ])
            refine wpAnyH_take (i := 8) (oi := ?oi17) (v := ?v17) ?hi17 (by kernel_rfl) (by kernel_rfl) (by kernel_rfl) ?hQ17 ?hy17 (by assumption) ?hrest17
            case hi17 => (simp only [List.getElem?_toArray, List.getElem?_cons_succ, List.getElem?_cons_zero]; try rfl)
            case hQ17 => exact fun _ _ _ h => h
            case hy17 =>
              refine Or.inl ⟨by rfl, ?_⟩
              (intro wq hSw; (try dsimp only at hSw); go_simp; try with_reducible rfl)
            (try simp only [Act.put, List.setIfInBounds_toArray, List.set_cons_zero, List.set_cons_succ])
            refine wpAnyH_ready (rs := [9]) (by kernel_rfl) (by simp) ?_
            refine AllReadyH.cons (o := ?oi18) ?hi18 (fun K hK => ?hstep18) AllReadyH.nil
            case hi18 => (simp only [List.getElem?_toArray, List.getElem?_cons_succ, List.getElem?_cons_zero]; try rfl)
            go_simp
            (skip)
            refine hK.out _ _ ?_ (fun hHeld => ?_)
            · exact (hHeld.setCell (p := ⟨bt, 0, none⟩) (Nat.le_refl _) _).setCell (p := ⟨bt, 1, none⟩) (Nat.le_refl _) _
            clear hK K
            (try simp only [Act.put, List.setIfInBounds_toArray, List.set_cons_zero, List.set_cons_succ])
            refine wpAnyH_take (i := 10) (oi := ?oi19) (v := ?v19) ?hi19 (by kernel_rfl) (by kernel_rfl) (by kernel_rfl) ?hQ19 ?hy19 (by assumption) ?hrest19
            case hi19 => (simp only [List.getElem?_toArray, List.getElem?_cons_succ, List.getElem?_cons_zero]; try rfl)
            case hQ19 => exact fun _ _ _ h => h
            case hy19 =>
              refine Or.inl ⟨by rfl, ?_⟩
              (intro wq hSw; (try dsimp only at hSw); go_simp; try with_reducible rfl)
            (try simp only [Act.put, List.setIfInBounds_toArray, List.set_cons_zero, List.set_cons_succ])
            refine wpAnyH_done (by kernel_rfl) ?_ _
            refine NoPanic.normal ?_
            (go_wp2_with fail; go_roundw; (case rel => exact ⟨j + 1, D, d, zs, by omega, by go_num, ⟨var2_set hTx _ _, hlz.set hTx neD _ _⟩, ⟨var2_other (hU.on bx) neU _ _, var2_other (hV.on bx) neV _ _⟩, ⟨(hR.below bx).set hTx ne6 _ _, (hC.below bx).set hTx ne7 _ _⟩, hb.trans (hHeld.mono wbt)⟩); (case measure => simp [intOf]; omega))
          exact AllReadyH.nil
        · obtain rfl : j = us.length := by omega
          rw [show L.take (i + us.length) = L by rw [HUL.out, List.length_drop]; exact List.take_of_length_le (by have := HI.out; omega)] at hY
          have hE1 := end_drop HR.out HI.out HN.out
          have hE2 : endL s L = s + L.length := by rw [endL, if_pos HR.out]
          have kal := fun W (hW : Below w.heap.size w W) => att_any (s := s) (H.out W hW) m
          have kac := fun W (hW : Below wr.heap.size wr W) => att_any (s := n) (hC.below hW) m
          have ke1 := fun W (hW : Below wr.heap.size wr W) => end_any (s := n) (hC.below hW)
          have ke2 := fun W (hW : Below w.heap.size w W) => end_any (s := s) (H.out W hW)
          rw [hE1] at ke1
          rw [hE2] at ke2
          generalize s + (L.length : Int) = TT at ke1 ke2
          have KE1 := hid ke1
          have KE2 := hid ke2
          have KS1 := hid (fun W (hW : Below wr.heap.size wr W) => (samel_any (s := s) (t := s) (hY.below hW) (H.out W (below_step hb hW)) (by have := hY.len; have := HL.out; omega)).mono (fun e w' hh => (show e = .returned (.bool true) ∧ Below W.heap.size W w' from ⟨hh.1.trans (congrArg (fun b => Ending.returned (.bool b)) (by rw [decide_eq_true (show s = s from rfl), decide_eq_true (show L = L from rfl)]; rfl)), hh.2⟩)))
          have KS2 := hid (fun W (hW : Below wr.heap.size wr W) => (samee_any (hC.below hW) (hR.below hW) (by have h1 := hC.len; rw [List.length_drop] at h1; have := HL.out; omega)).mono (fun e w' hh => (show e = .returned (.bool true) ∧ Below W.heap.size W w' from ⟨hh.1.trans (congrArg (fun b => Ending.returned (.bool b)) (decide_eq_true rfl)), hh.2⟩)))
          obtain ⟨v0, v1, _⟩ := id hT
          obtain ⟨u0, u1, _⟩ := id hU
          obtain ⟨c0, c1, _⟩ := id hV
          rcases parts_at HR.out HI.out HN.out m with ⟨dd, p1, p2, p3⟩ | ⟨p1, p2⟩ | ⟨p1, ⟨dd, p2⟩, p3⟩
          · rw [p1] at kac
            rw [p2] at kal
            have KAl := hid kal
            have KAc := hid kac
            clear kal kac p1 p2 ke1 ke2 hE1 hE2
            go_wp2_with fail
            refine (KAl.out _ hb).mono ?_
            unfold En.agg
            rintro e w9 ⟨z, rfl, hzd, hzs, hb9⟩
            have ha10 := below_alloc w9 (.cells #[.int .i64 z.c, .int .i64 z.r, .slice z.A z.op.length z.cap] 32)
            have Z := hid (Var3.new w9 (.int .i64 z.c) (.int .i64 z.r) (.slice z.A z.op.length z.cap) 32)
            obtain ⟨w10, hw10⟩ : ∃ w10, w9.alloc (.cells #[.int .i64 z.c, .int .i64 z.r, .slice z.A z.op.length z.cap] 32) = w10 := ⟨_, rfl⟩
            rw [hw10] at ha10 Z
            have b10 := below_step hb9 ha10
            have hzs10 := hzs.keep (fun p u hp => cell_on ha10 hp)
            obtain ⟨c0, c1, _⟩ := hV.on b10
            go_wp2_with fail
            refine (KAc.out _ b10).mono ?_
            unfold En.agg
            rintro e w11 ⟨y, rfl, hyd, hys, hb11⟩
            have ha12 := below_alloc w11 (.cells #[.int .i64 y.c, .int .i64 y.r, .slice y.A y.op.length y.cap] 32)
            have Y := hid (Var3.new w11 (.int .i64 y.c) (.int .i64 y.r) (.slice y.A y.op.length y.cap) 32)
            obtain ⟨w12, hw12⟩ : ∃ w12, w11.alloc (.cells #[.int .i64 y.c, .int .i64 y.r, .slice y.A y.op.length y.cap] 32) = w12 := ⟨_, rfl⟩
            rw [hw12] at ha12 Y
            have b1012 := below_step hb11 ha12
            have b12 := below_step b10 b1012
            have bw12 := below_step hb b12
            obtain ⟨v0, v1, _⟩ := hT.on b12
            obtain ⟨u0, u1, _⟩ := hU.on b12
            obtain ⟨c0, c1, _⟩ := hV.on b12
            obtain ⟨z0, z1, z2, _⟩ := Z.out.on b1012
            obtain ⟨y0, y1, y2, _⟩ := Y.out
            have hzs12 := hzs10.keep (fun p u hp => cell_on b1012 hp)
            have hys12 := hys.keep (fun p u hp => cell_on ha12 hp)
            have v0q := fun W (hW : Below w12.heap.size w12 W) => cell_on hW v0
            have v1q := fun W (hW : Below w12.heap.size w12 W) => cell_on hW v1
            have u0q := fun W (hW : Below w12.heap.size w12 W) => cell_on hW u0
            have u1q := fun W (hW : Below w12.heap.size w12 W) => cell_on hW u1
            have c0q := fun W (hW : Below w12.heap.size w12 W) => cell_on hW c0
            have c1q := fun W (hW : Below w12.heap.size w12 W) => cell_on hW c1
            have z0q := fun W (hW : Below w12.heap.size w12 W) => cell_on hW z0
            have z1q := fun W (hW : Below w12.heap.size w12 W) => cell_on hW z1
            have z2q := fun W (hW : Below w12.heap.size w12 W) => cell_on hW z2
            have y0q := fun W (hW : Below w12.heap.size w12 W) => cell_on hW y0
            have y1q := fun W (hW : Below w12.heap.size w12 W) => cell_on hW y1
            have y2q := fun W (hW : Below w12.heap.size w12 W) => cell_on hW y2
            have KT := hid (fun W A1 A2 (g1 : Lg W A1 1 [z] [z.data]) (g2 : Lg W A2 1 [y] [y.data]) => (samee_any g1 g2 (by simp)).mono (fun e w' hh => (show e = .returned (.bool true) ∧ Below W.heap.size W w' from ⟨hh.1.trans (congrArg (fun b => Ending.returned (.bool b)) (decide_eq_true (by rw [hzd, hyd]))), hh.2⟩)))
            clear v0 v1 u0 u1 c0 c1 z0 z1 z2 y0 y1 y2
            go_upto_region 19 with fail
            refine wp_region_noPanic ?_
            refine wp_region_held_drew (S := (fun W => Below w12.heap.size w12 W)) (by kernel_rfl) ?_ (fun hHeld => ?_)
            · exact (Below.refl _ _).drew
            refine wpAnyH_take (i := 0) (oi := ?oi20) (v := ?v20) ?hi20 (by kernel_rfl) (by kernel_rfl) (by kernel_rfl) ?hQ20 ?hy20 (by assumption) ?hrest20
            case hi20 => (simp only [List.getElem?_toArray, List.getElem?_cons_zero]; try rfl)
            case hQ20 => exact fun _ _ _ h => h
            case hy20 =>
              refine Or.inl ⟨by rfl, ?_⟩
              (intro wq hSw; (try dsimp only at hSw); go_simp; try with_reducible rfl)
            (try simp only [Act.put, List.setIfInBounds_toArray, List.set_cons_zero, List.set_cons_succ])
            refine wpAnyH_take (i := 1) (oi := ?oi21) (v := ?v21) ?hi21 (by kernel_rfl) (by kernel_rfl) (by kernel_rfl) ?hQ21 ?hy21 (by assumption) ?hrest21
            case hi21 => (simp only [List.getElem?_toArray, List.getElem?_cons_succ, List.getElem?_cons_zero]; try rfl)
            case hQ21 => exact fun _ _ _ h => h
            case hy21 =>
              refine Or.inl ⟨by rfl, ?_⟩
              (intro wq hSw; (try dsimp only at hSw); go_simp; try with_reducible rfl)
            (try simp only [Act.put, List.setIfInBounds_toArray, List.set_cons_zero, List.set_cons_succ])
            refine wpAnyH_take (i := 2) (oi := ?oi22) (v := ?v22) ?hi22 (by kernel_rfl) (by kernel_rfl) (by kernel_rfl) ?hQ22 ?hy22 (by assumption) ?hrest22
            case hi22 => (simp only [List.getElem?_toArray, List.getElem?_cons_succ, List.getElem?_cons_zero]; try rfl)
            case hQ22 => exact fun _ _ _ h => h
            case hy22 =>
              refine Or.inl ⟨by rfl, ?_⟩
              (intro wq hSw; (try dsimp only at hSw); go_simp; try with_reducible rfl)
            (try simp only [Act.put, List.setIfInBounds_toArray, List.set_cons_zero, List.set_cons_succ])
            refine wpAnyH_take (i := 3) (oi := ?oi23) (v := ?v23) ?hi23 (by kernel_rfl) (by kernel_rfl) (by kernel_rfl) ?hQ23 ?hy23 (by assumption) ?hrest23
            case hi23 => (simp only [List.getElem?_toArray, List.getElem?_cons_succ, List.getElem?_cons_zero]; try rfl)
            case hQ23 => exact fun _ _ _ h => h
            case hy23 =>
              refine Or.inl ⟨by rfl, ?_⟩
              (intro wq hSw; (try dsimp only at hSw); go_simp; try with_reducible rfl)
            (try simp only [Act.put, List.setIfInBounds_toArray, List.set_cons_zero, List.set_cons_succ])
            refine wpAnyH_ready (rs := [4]) (by kernel_rfl) (by simp) ?_
            refine AllReadyH.cons (o := ?oi24) ?hi24 (fun K hK => ?hstep24) AllReadyH.nil
            case hi24 => (simp only [List.getElem?_toArray, List.getElem?_cons_succ, List.getElem?_cons_zero]; try rfl)
            go_simp
            (refine (KS1.out _ (below_step b12 hHeld)).mono ?_; rintro e wx ⟨rfl, hbx⟩)
            refine hK.out _ _ ?_ (fun hHeld => ?_)
            · exact below_step hHeld hbx
            clear hK K
            (try simp only [Act.put, List.setIfInBounds_toArray, List.set_cons_zero, List.set_cons_succ])
            refine wpAnyH_take (i := 5) (oi := ?oi25) (v := ?v25) ?hi25 (by kernel_rfl) (by kernel_rfl) (by kernel_rfl) ?hQ25 ?hy25 (by assumption) ?hrest25
            case hi25 => (simp only [List.getElem?_toArray, List.getElem?_cons_succ, List.getElem?_cons_zero]; try rfl)
            case hQ25 => exact fun _ _ _ h => h
            case hy25 =>
              refine Or.inl ⟨by rfl, ?_⟩
              (intro wq hSw; (try dsimp only at hSw); go_simp; try with_reducible rfl)
            (try simp only [Act.put, List.setIfInBounds_toArray, List.set_cons_zero, List.set_cons_succ])
            refine wpAnyH_take (i := 6) (oi := ?oi26) (v := ?v26) ?hi26 (by kernel_rfl) (by kernel_rfl) (by kernel_rfl) ?hQ26 ?hy26 (by assumption) ?hrest26
            case hi26 => (simp only [List.getElem?_toArray, List.getElem?_cons_succ, List.getElem?_cons_zero]; try rfl)
            case hQ26 => exact fun _ _ _ h => h
            case hy26 =>
              refine Or.inl ⟨by rfl, ?_⟩
              (intro wq hSw; (try dsimp only at hSw); go_simp; try with_reducible rfl)
            (try simp only [Act.put, List.setIfInBounds_toArray, List.set_cons_zero, List.set_cons_succ])
            refine wpAnyH_take (i := 7) (oi := ?oi27) (v := ?v27) ?hi27 (by kernel_rfl) (by kernel_rfl) (by kernel_rfl) ?hQ27 ?hy27 (by assumption) ?hrest27
            case hi27 => (simp only [List.getElem?_toArray, List.getElem?_cons_succ, List.getElem?_cons_zero]; try rfl)
            case hQ27 => exact fun _ _ _ h => h
            case hy27 =>
              refine Or.inl ⟨by rfl, ?_⟩
              (intro wq hSw; (try dsimp only at hSw); go_simp; try with_reducible rfl)
            (try simp only [Act.put, List.setIfInBounds_toArray, List.set_cons_zero, List.set_cons_succ])
            refine wpAnyH_take (i := 8) (oi := ?oi28) (v := ?v28) ?hi28 (by kernel_rfl) (by kernel_rfl) (by kernel_rfl) ?hQ28 ?hy28 (by assumption) ?hrest28
            case hi28 => (simp only [List.getElem?_toArray, List.getElem?_cons_succ, List.getElem?_cons_zero]; try rfl)
            case hQ28 => exact fun _ _ _ h => h
            case hy28 =>
              refine Or.inl ⟨by rfl, ?_⟩
              (intro wq hSw; (try dsimp only at hSw); go_simp; try with_reducible rfl)
            (try simp only [Act.put, List.setIfInBounds_toArray, List.set_cons_zero, List.set_cons_succ])
            refine wpAnyH_take (i := 9) (oi := ?oi29) (v := ?v29) ?hi29 (by kernel_rfl) (by kernel_rfl) (by kernel_rfl) ?hQ29 ?hy29 (by assumption) ?hrest29
            case hi29 => (simp only [List.getElem?_toArray, List.getElem?_cons_succ, List.getElem?_cons_zero]; try rfl)
            case hQ29 => exact fun _ _ _ h => h
            case hy29 =>
              refine Or.inl ⟨by rfl, ?_⟩
              (intro wq hSw; (try dsimp only at hSw); go_simp; try with_reducible rfl)
            (try simp only [Act.put, List.setIfInBounds_toArray, List.set_cons_zero, List.set_cons_succ])
            refine wpAnyH_ready (rs := [10]) (by kernel_rfl) (by simp) ?_
            refine AllReadyH.cons (o := ?oi30) ?hi30 (fun K hK => ?hstep30) AllReadyH.nil
            case hi30 => (simp only [List.getElem?_toArray, List.getElem?_cons_succ, List.getElem?_cons_zero]; try rfl)
            go_simp
            (refine (KS2.out _ (below_step b12 hHeld)).mono ?_; rintro e wx ⟨rfl, hbx⟩)
            refine hK.out _ _ ?_ (fun hHeld => ?_)
            · exact below_step hHeld hbx
            clear hK K
            (try simp only [Act.put, List.setIfInBounds_toArray, List.set_cons_zero, List.set_cons_succ])
            refine wpAnyH_take (i := 11) (oi := ?oi31) (v := ?v31) ?hi31 (by kernel_rfl) (by kernel_rfl) (by kernel_rfl) ?hQ31 ?hy31 (by assumption) ?hrest31
            case hi31 => (simp only [List.getElem?_toArray, List.getElem?_cons_succ, List.getElem?_cons_zero]; try rfl)
            case hQ31 => exact fun _ _ _ h => h
            case hy31 =>
              refine Or.inl ⟨by rfl, ?_⟩
              (intro wq hSw; (try dsimp only at hSw); go_simp; try with_reducible rfl)
            (try simp only [Act.put, List.setIfInBounds_toArray, List.set_cons_zero, List.set_cons_succ])
            refine wpAnyH_take (i := 12) (oi := ?oi32) (v := ?v32) ?hi32 (by kernel_rfl) (by kernel_rfl) (by kernel_rfl) ?hQ32 ?hy32 (by assumption) ?hrest32
            case hi32 => (simp only [List.getElem?_toArray, List.getElem?_cons_succ, List.getElem?_cons_zero]; try rfl)
            case hQ32 => exact fun _ _ _ h => h
            case hy32 =>
              refine Or.inl ⟨by rfl, ?_⟩
              (intro wq hSw; (try dsimp only at hSw); go_simp; try with_reducible rfl)
            (try simp only [Act.put, List.setIfInBounds_toArray, List.set_cons_zero, List.set_cons_succ])
            refine wpAnyH_take (i := 13) (oi := ?oi33) (v := ?v33) ?hi33 (by kernel_rfl) (by kernel_rfl) (by kernel_rfl) ?hQ33 ?hy33 (by assumption) ?hrest33
            case hi33 => (simp only [List.getElem?_toArray, List.getElem?_cons_succ, List.getElem?_cons_zero]; try rfl)
            case hQ33 => exact fun _ _ _ h => h
            case hy33 =>
              refine Or.inl ⟨by rfl, ?_⟩
              (intro wq hSw; (try dsimp only at hSw); go_simp; try with_reducible rfl)
            (try simp only [Act.put, List.setIfInBounds_toArray, List.set_cons_zero, List.set_cons_succ])
            refine wpAnyH_take (i := 14) (oi := ?oi34) (v := ?v34) ?hi34 (by kernel_rfl) (by kernel_rfl) (by kernel_rfl) ?hQ34 ?hy34 (by assumption) ?hrest34
            case hi34 => (simp only [List.getElem?_toArray, List.getElem?_cons_succ, List.getElem?_cons_zero]; try rfl)
            case hQ34 => exact fun _ _ _ h => h
            case hy34 =>
              refine Or.inl ⟨by rfl, ?_⟩
              (intro wq hSw; (try dsimp only at hSw); go_simp; try with_reducible rfl)
            (try simp only [Act.put, List.setIfInBounds_toArray, List.set_cons_zero, List.set_cons_succ])
            refine wpAnyH_take (i := 15) (oi := ?oi35) (v := ?v35) ?hi35 (by kernel_rfl) (by kernel_rfl) (by kernel_rfl) ?hQ35 ?hy35 (by assumption) ?hrest35
            case hi35 => (simp only [List.getElem?_toArray, List.getElem?_cons_succ, List.getElem?_cons_zero]; try rfl)
            case hQ35 => exact fun _ _ _ h => h
            case hy35 =>
              refine Or.inl ⟨by rfl, ?_⟩
              (intro wq hSw; (try dsimp only at hSw); go_simp; try with_reducible rfl)
            (try simp only [Act.put, List.setIfInBounds_toArray, List.set_cons_zero, List.set_cons_succ])
            refine wpAnyH_take (i := 16) (oi := ?oi36) (v := ?v36) ?hi36 (by kernel_rfl) (by kernel_rfl) (by kernel_rfl) ?hQ36 ?hy36 (by assumption) ?hrest36
            case hi36 => (simp only [List.getElem?_toArray, List.getElem?_cons_succ, List.getElem?_cons_zero]; try rfl)
            case hQ36 => exact fun _ _ _ h => h
            case hy36 =>
              refine Or.inl ⟨by rfl, ?_⟩
              (intro wq hSw; (try dsimp only at hSw); go_simp; try with_reducible rfl)
            (try simp only [Act.put, List.setIfInBounds_toArray, List.set_cons_zero, List.set_cons_succ])
            refine wpAnyH_take (i := 17) (oi := ?oi37) (v := ?v37) ?hi37 (by kernel_rfl) (by kernel_rfl) (by kernel_rfl) ?hQ37 ?hy37 (by assumption) ?hrest37
            case hi37 => (simp only [List.getElem?_toArray, List.getElem?_cons_succ, List.getElem?_cons_zero]; try rfl)
            case hQ37 => exact fun _ _ _ h => h
            case hy37 =>
              refine Or.inl ⟨by rfl, ?_⟩
              (intro wq hSw; (try dsimp only at hSw); go_simp; try with_reducible rfl)
            (try simp only [Act.put, List.setIfInBounds_toArray, List.set_cons_zero, List.set_cons_succ])
            refine wpAnyH_take (i := 18) (oi := ?oi38) (v := ?v38) ?hi38 (by kernel_rfl) (by kernel_rfl) (by kernel_rfl) ?hQ38 ?hy38 (by assumption) ?hrest38
            case hi38 => (simp only [List.getElem?_toArray, List.getElem?_cons_succ, List.getElem?_cons_zero]; try rfl)
            case hQ38 => exact fun _ _ _ h => h
            case hy38 =>
              refine Or.inl ⟨by rfl, ?_⟩
              (intro wq hSw; (try dsimp only at hSw); go_simp; try with_reducible rfl)
            (try simp only [Act.put, List.setIfInBounds_toArray, List.set_cons_zero, List.set_cons_succ])
            refine wpAnyH_take (i := 19) (oi := ?oi39) (v := ?v39) ?hi39 (by kernel_rfl) (by kernel_rfl) (by kernel_rfl) ?hQ39 ?hy39 (by assumption) ?hrest39
            case hi39 => (simp only [List.getElem?_toArray, List.getElem?_cons_succ, List.getElem?_cons_zero]; try rfl)
            case hQ39 => exact fun _ _ _ h => h
            case hy39 =>
              refine Or.inl ⟨by rfl, ?_⟩
              (intro wq hSw; (try dsimp only at hSw); go_simp; try with_reducible rfl)
            (try simp only [Act.put, List.setIfInBounds_toArray, List.set_cons_zero, List.set_cons_succ])
            refine wpAnyH_take (i := 21) (oi := ?oi40) (v := ?v40) ?hi40 (by kernel_rfl) (by kernel_rfl) (by kernel_rfl) ?hQ40 ?hy40 (by assumption) ?hrest40
            case hi40 => (simp only [List.getElem?_toArray, List.getElem?_cons_succ, List.getElem?_cons_zero]; try rfl)
            case hQ40 => exact fun _ _ _ h => h
            case hy40 =>
              refine Or.inl ⟨by rfl, ?_⟩
              (intro wq hSw; (try dsimp only at hSw); go_simp; try with_reducible rfl)
            (try simp only [Act.put, List.setIfInBounds_toArray, List.set_cons_zero, List.set_cons_succ])
            refine wpAnyH_ready (rs := [20]) (by kernel_rfl) (by simp) ?_
            refine AllReadyH.cons (o := ?oi41) ?hi41 (fun K hK => ?hstep41) AllReadyH.nil
            case hi41 => (simp only [List.getElem?_toArray, List.getElem?_cons_succ, List.getElem?_cons_zero]; try rfl)
            go_simp
            (refine (KE1.out _ (below_step b12 hHeld)).mono ?_; rintro e wx ⟨rfl, hbx⟩)
            refine hK.out _ _ ?_ (fun hHeld => ?_)
            · exact below_step hHeld hbx
            clear hK K
            (try simp only [Act.put, List.setIfInBounds_toArray, List.set_cons_zero, List.set_cons_succ])
            refine wpAnyH_ready (rs := [22]) (by kernel_rfl) (by simp) ?_
            refine AllReadyH.cons (o := ?oi42) ?hi42 (fun K hK => ?hstep42) AllReadyH.nil
            case hi42 => (simp only [List.getElem?_toArray, List.getElem?_cons_succ, List.getElem?_cons_zero]; try rfl)
            go_simp
            (refine (KE2.out _ (below_step bw12 hHeld)).mono ?_; rintro e wx ⟨rfl, hbx⟩)
            refine hK.out _ _ ?_ (fun hHeld => ?_)
            · exact below_step hHeld hbx
            clear hK K
            (try simp only [Act.put, List.setIfInBounds_toArray, List.set_cons_zero, List.set_cons_succ])
            refine wpAnyH_take (i := 23) (oi := ?oi43) (v := ?v43) ?hi43 (by kernel_rfl) (by kernel_rfl) (by kernel_rfl) ?hQ43 ?hy43 (by assumption) ?hrest43
            case hi43 => (simp only [List.getElem?_toArray, List.getElem?_cons_succ, List.getElem?_cons_zero]; try rfl)
            case hQ43 => exact fun _ _ _ h => h
            case hy43 =>
              refine Or.inl ⟨by rfl, ?_⟩
              (intro wq hSw; (try dsimp only at hSw); go_simp; try with_reducible rfl)
            (try simp only [Act.put, List.setIfInBounds_toArray, List.set_cons_zero, List.set_cons_succ])
            refine wpAnyH_take (i := 24) (oi := ?oi44) (v := ?v44) ?hi44 (by kernel_rfl) (by kernel_rfl) (by kernel_rfl) ?hQ44 ?hy44 (by assumption) ?hrest44
            case hi44 => (simp only [List.getElem?_toArray, List.getElem?_cons_succ, List.getElem?_cons_zero]; try rfl)
            case hQ44 => exact fun _ _ _ h => h
            case hy44 =>
              refine Or.inl ⟨by rfl, ?_⟩
              (intro wq hSw; (try dsimp only at hSw); go_simp; try with_reducible rfl)
            (try simp only [Act.put, List.setIfInBounds_toArray, List.set_cons_zero, List.set_cons_succ])
            refine wpAnyH_take (i := 25) (oi := ?oi45) (v := ?v45) ?hi45 (by kernel_rfl) (by kernel_rfl) (by kernel_rfl) ?hQ45 ?hy45 (by assumption) ?hrest45
            case hi45 => (simp only [List.getElem?_toArray, List.getElem?_cons_succ, List.getElem?_cons_zero]; try rfl)
            case hQ45 => exact fun _ _ _ h => h
            case hy45 =>
              refine Or.inl ⟨by rfl, ?_⟩
              (intro wq hSw; (try dsimp only at hSw); go_simp; try with_reducible rfl)
            (try simp only [Act.put, List.setIfInBounds_toArray, List.set_cons_zero, List.set_cons_succ])
            refine wpAnyH_take (i := 26) (oi := ?oi46) (v := ?v46) ?hi46 (by kernel_rfl) (by kernel_rfl) (by kernel_rfl) ?hQ46 ?hy46 (by assumption) ?hrest46
            case hi46 => (simp only [List.getElem?_toArray, List.getElem?_cons_succ, List.getElem?_cons_zero]; try rfl)
            case hQ46 => exact fun _ _ _ h => h
            case hy46 =>
              refine Or.inl ⟨by rfl, ?_⟩
              (intro wq hSw; (try dsimp only at hSw); go_simp; try with_reducible rfl)
            (try simp only [Act.put, List.setIfInBounds_toArray, List.set_cons_zero, List.set_cons_succ])
            refine wpAnyH_take (i := 27) (oi := ?oi47) (v := ?v47) ?hi47 (by kernel_rfl) (by kernel_rfl) (by kernel_rfl) ?hQ47 ?hy47 (by assumption) ?hrest47
            case hi47 => (simp only [List.getElem?_toArray, List.getElem?_cons_succ, List.getElem?_cons_zero]; try rfl)
            case hQ47 => exact fun _ _ _ h => h
            case hy47 =>
              refine Or.inl ⟨by rfl, ?_⟩
              (intro wq hSw; (try dsimp only at hSw); go_simp; try with_reducible rfl)
            (try simp only [Act.put, List.setIfInBounds_toArray, List.set_cons_zero, List.set_cons_succ])
            refine wpAnyH_take (i := 28) (oi := ?oi48) (v := ?v48) ?hi48 (by kernel_rfl) (by kernel_rfl) (by kernel_rfl) ?hQ48 ?hy48 (by assumption) ?hrest48
            case hi48 => (simp only [List.getElem?_toArray, List.getElem?_cons_succ, List.getElem?_cons_zero]; try rfl)
            case hQ48 => exact fun _ _ _ h => h
            case hy48 =>
              refine Or.inl ⟨by rfl, ?_⟩
              (intro wq hSw; (try dsimp only at hSw); go_simp; try with_reducible rfl)
            (try simp only [Act.put, List.setIfInBounds_toArray, List.set_cons_zero, List.set_cons_succ])
            refine wpAnyH_take (i := 29) (oi := ?oi49) (v := ?v49) ?hi49 (by kernel_rfl) (by kernel_rfl) (by kernel_rfl) ?hQ49 ?hy49 (by assumption) ?hrest49
            case hi49 => (simp only [List.getElem?_toArray, List.getElem?_cons_succ, List.getElem?_cons_zero]; try rfl)
            case hQ49 => exact fun _ _ _ h => h
            case hy49 =>
              refine Or.inl ⟨by rfl, ?_⟩
              (intro wq hSw; (try dsimp only at hSw); go_simp; try with_reducible rfl)
            (try simp only [Act.put, List.setIfInBounds_toArray, List.set_cons_zero, List.set_cons_succ])
            refine wpAnyH_take (i := 30) (oi := ?oi50) (v := ?v50) ?hi50 (by kernel_rfl) (by kernel_rfl) (by kernel_rfl) ?hQ50 ?hy50 (by assumption) ?hrest50
            case hi50 => (simp only [List.getElem?_toArray, List.getElem?_cons_succ, List.getElem?_cons_zero]; try rfl)
            case hQ50 => exact fun _ _ _ h => h
            case hy50 =>
              refine Or.inl ⟨by rfl, ?_⟩
              (intro wq hSw; (try dsimp only at hSw); go_simp; try with_reducible rfl)
            (try simp only [Act.put, List.setIfInBounds_toArray, List.set_cons_zero, List.set_cons_succ])
            refine wpAnyH_take (i := 31) (oi := ?oi51) (v := ?v51) ?hi51 (by kernel_rfl) (by kernel_rfl) (by kernel_rfl) ?hQ51 ?hy51 (by assumption) ?hrest51
            case hi51 => (simp only [List.getElem?_toArray, List.getElem?_cons_succ, List.getElem?_cons_zero]; try rfl)
            case hQ51 => exact fun _ _ _ h => h
            case hy51 =>
              refine Or.inl ⟨by rfl, ?_⟩
              (intro wq hSw; (try dsimp only at hSw); go_simp; try with_reducible rfl)
            (try simp only [Act.put, List.setIfInBounds_toArray, List.set_cons_zero, List.set_cons_succ])
            refine wpAnyH_take (i := 32) (oi := ?oi52) (v := ?v52) ?hi52 (by kernel_rfl) (by kernel_rfl) (by kernel_rfl) ?hQ52 ?hy52 (by assumption) ?hrest52
            case hi52 => (simp only [List.getElem?_toArray, List.getElem?_cons_succ, List.getElem?_cons_zero]; try rfl)
            case hQ52 => exact fun _ _ _ h => h
            case hy52 =>
              refine Or.inl ⟨by rfl, ?_⟩
              (intro wq hSw; (try dsimp only at hSw); go_simp; try with_reducible rfl)
            (try simp only [Act.put, List.setIfInBounds_toArray, List.set_cons_zero, List.set_cons_succ])
            refine wpAnyH_take (i := 33) (oi := ?oi53) (v := ?v53) ?hi53 (by kernel_rfl) (by kernel_rfl) (by kernel_rfl) ?hQ53 ?hy53 (by assumption) ?hrest53
            case hi53 => (simp only [List.getElem?_toArray, List.getElem?_cons_succ, List.getElem?_cons_zero]; try rfl)
            case hQ53 => exact fun _ _ _ h => h
            case hy53 =>
              refine Or.inl ⟨by rfl, ?_⟩
              (intro wq hSw; (try dsimp only at hSw); go_simp; try with_reducible rfl)
            (try simp only [Act.put, List.setIfInBounds_toArray, List.set_cons_zero, List.set_cons_succ])
            refine wpAnyH_take (i := 34) (oi := ?oi54) (v := ?v54) ?hi54 (by kernel_rfl) (by kernel_rfl) (by kernel_rfl) ?hQ54 ?hy54 (by assumption) ?hrest54
            case hi54 => (simp only [List.getElem?_toArray, List.getElem?_cons_succ, List.getElem?_cons_zero]; try rfl)
            case hQ54 => exact fun _ _ _ h => h
            case hy54 =>
              refine Or.inl ⟨by rfl, ?_⟩
              (intro wq hSw; (try dsimp only at hSw); go_simp; try with_reducible rfl)
            (try simp only [Act.put, List.setIfInBounds_toArray, List.set_cons_zero, List.set_cons_succ])
            refine wpAnyH_take (i := 35) (oi := ?oi55) (v := ?v55) ?hi55 (by kernel_rfl) (by kernel_rfl) (by kernel_rfl) ?hQ55 ?hy55 (by assumption) ?hrest55
            case hi55 => (simp only [List.getElem?_toArray, List.getElem?_cons_succ, List.getElem?_cons_zero]; try rfl)
            case hQ55 => exact fun _ _ _ h => h
            case hy55 =>
              refine Or.inl ⟨by rfl, ?_⟩
              (intro wq hSw; (try dsimp only at hSw); go_simp; try with_reducible rfl)
            (try simp only [Act.put, List.setIfInBounds_toArray, List.set_cons_zero, List.set_cons_succ])
            refine wpAnyH_take (i := 36) (oi := ?oi56) (v := ?v56) ?hi56 (by kernel_rfl) (by kernel_rfl) (by kernel_rfl) ?hQ56 ?hy56 (by assumption) ?hrest56
            case hi56 => (simp only [List.getElem?_toArray, List.getElem?_cons_succ, List.getElem?_cons_zero]; try rfl)
            case hQ56 => exact fun _ _ _ h => h
            case hy56 =>
              refine Or.inl ⟨by rfl, ?_⟩
              (intro wq hSw; (try dsimp only at hSw); go_simp; try with_reducible rfl)
            (try simp only [Act.put, List.setIfInBounds_toArray, List.set_cons_zero, List.set_cons_succ])
            refine wpAnyH_take (i := 37) (oi := ?oi57) (v := ?v57) ?hi57 (by kernel_rfl) (by kernel_rfl) (by kernel_rfl) ?hQ57 ?hy57 (by assumption) ?hrest57
            case hi57 => (simp only [List.getElem?_toArray, List.getElem?_cons_succ, List.getElem?_cons_zero]; try rfl)
            case hQ57 => exact fun _ _ _ h => h
            case hy57 =>
              refine Or.inl ⟨by rfl, ?_⟩
              (intro wq hSw; (try dsimp only at hSw); go_simp; try with_reducible rfl)
            (try simp only [Act.put, List.setIfInBounds_toArray, List.set_cons_zero, List.set_cons_succ])
            refine wpAnyH_take (i := 38) (oi := ?oi58) (v := ?v58) ?hi58 (by kernel_rfl) (by kernel_rfl) (by kernel_rfl) ?hQ58 ?hy58 (by assumption) ?hrest58
            case hi58 => (simp only [List.getElem?_toArray, List.getElem?_cons_succ, List.getElem?_cons_zero]; try rfl)
            case hQ58 => exact fun _ _ _ h => h
            case hy58 =>
              refine Or.inl ⟨by rfl, ?_⟩
              (intro wq hSw; (try dsimp only at hSw); go_simp; try with_reducible rfl)
            (try simp only [Act.put, List.setIfInBounds_toArray, List.set_cons_zero, List.set_cons_succ])
            refine wpAnyH_take (i := 39) (oi := ?oi59) (v := ?v59) ?hi59 (by kernel_rfl) (by kernel_rfl) (by kernel_rfl) ?hQ59 ?hy59 (by assumption) ?hrest59
            case hi59 => (simp only [List.getElem?_toArray, List.getElem?_cons_succ, List.getElem?_cons_zero]; try rfl)
            case hQ59 => exact fun _ _ _ h => h
            case hy59 =>
              refine Or.inl ⟨by rfl, ?_⟩
              (intro wq hSw; (try dsimp only at hSw); go_simp; try with_reducible rfl)
            (try simp only [Act.put, List.setIfInBounds_toArray, List.set_cons_zero, List.set_cons_succ])
            refine wpAnyH_take (i := 41) (oi := ?oi60) (v := ?v60) ?hi60 (by kernel_rfl) (by kernel_rfl) (by kernel_rfl) ?hQ60 ?hy60 (by assumption) ?hrest60
            case hi60 => (simp only [List.getElem?_toArray, List.getElem?_cons_succ, List.getElem?_cons_zero]; try rfl)
            case hQ60 => exact fun _ _ _ h => h
            case hy60 =>
              refine Or.inl ⟨by rfl, ?_⟩
              (intro wq hSw; (try dsimp only at hSw); go_simp; try with_reducible rfl)
            (try simp only [Act.put, List.setIfInBounds_toArray, List.set_cons_zero, List.set_cons_succ])
            refine wpAnyH_ready (rs := [40, 42]) (by kernel_rfl) (by simp) ?_
            refine AllReadyH.cons (o := ?oi61) ?hi61 (fun K hK => ?hstep61) ?hmore61
            case hi61 => (simp only [List.getElem?_toArray, List.getElem?_cons_succ, List.getElem?_cons_zero]; try rfl)
            case hstep61 =>
              go_simp
              (have hh0 := hHeld; (first | refine newvar_Kd ?_ | refine newvar_K ?_); intro wx hbx nv nf nz; have hwx := below_step hh0 hbx; have lgz := one_lg (nv 0 _ rfl) (nv 1 _ rfl) (nv 2 _ rfl) (hzs12.keep (fun p u hp => cell_on hwx hp)); (try have lgy := lgy.below hbx); clear nv nf)
              refine hK.out _ _ ?_ (fun hHeld => ?_)
              · exact below_step hHeld hbx
              clear hK K
              (try simp only [Act.put, List.setIfInBounds_toArray, List.set_cons_zero, List.set_cons_succ])
              refine wpAnyH_ready (rs := [42]) (by kernel_rfl) (by simp) ?_
              refine AllReadyH.cons (o := ?oi62) ?hi62 (fun K hK => ?hstep62) AllReadyH.nil
              case hi62 => (simp only [List.getElem?_toArray, List.getElem?_cons_succ, List.getElem?_cons_zero]; try rfl)
              go_simp
              (have hh0 := hHeld; (first | refine newvar_Kd ?_ | refine newvar_K ?_); intro wx hbx nv nf nz; have hwx := below_step hh0 hbx; have lgy := one_lg (nv 0 _ rfl) (nv 1 _ rfl) (nv 2 _ rfl) (hys12.keep (fun p u hp => cell_on hwx hp)); (try have lgz := lgz.below hbx); clear nv nf)
              refine hK.out _ _ ?_ (fun hHeld => ?_)
              · exact below_step hHeld hbx
              clear hK K
              (try simp only [Act.put, List.setIfInBounds_toArray, List.set_cons_zero, List.set_cons_succ])
              refine wpAnyH_ready (rs := [43]) (by kernel_rfl) (by simp) ?_
              refine AllReadyH.cons (o := ?oi63) ?hi63 (fun K hK => ?hstep63) AllReadyH.nil
              case hi63 => (simp only [List.getElem?_toArray, List.getElem?_cons_succ, List.getElem?_cons_zero]; try rfl)
              go_simp
              (refine (KT.out _ _ _ lgz lgy).mono ?_; rintro e wx ⟨rfl, hbx⟩)
              refine hK.out _ _ ?_ (fun hHeld => ?_)
              · exact below_step hHeld hbx
              clear hK K
              (try simp only [Act.put, List.setIfInBounds_toArray, List.set_cons_zero, List.set_cons_succ])
              refine wpAnyH_take (i := 44) (oi := ?oi64) (v := ?v64) ?hi64 (by kernel_rfl) (by kernel_rfl) (by kernel_rfl) ?hQ64 ?hy64 (by assumption) ?hrest64
              case hi64 => (simp only [List.getElem?_toArray, List.getElem?_cons_succ, List.getElem?_cons_zero]; try rfl)
              case hQ64 => exact fun _ _ _ h => h
              case hy64 =>
                refine Or.inl ⟨by rfl, ?_⟩
                (intro wq hSw; (try dsimp only at hSw); go_simp; try with_reducible rfl)
              (try simp only [Act.put, List.setIfInBounds_toArray, List.set_cons_zero, List.set_cons_succ])
              refine wpAnyH_take (i := 45) (oi := ?oi65) (v := ?v65) ?hi65 (by kernel_rfl) (by kernel_rfl) (by kernel_rfl) ?hQ65 ?hy65 (by assumption) ?hrest65
              case hi65 => (simp only [List.getElem?_toArray, List.getElem?_cons_succ, List.getElem?_cons_zero]; try rfl)
              case hQ65 => exact fun _ _ _ h => h
              case hy65 =>
                refine Or.inl ⟨by rfl, ?_⟩
                (intro wq hSw; (try dsimp only at hSw); go_simp; try with_reducible rfl)
              (try simp only [Act.put, List.setIfInBounds_toArray, List.set_cons_zero, List.set_cons_succ])
              refine wpAnyH_take (i := 46) (oi := ?oi66) (v := ?v66) ?hi66 (by kernel_rfl) (by kernel_rfl) (by kernel_rfl) ?hQ66 ?hy66 (by assumption) ?hrest66
              case hi66 => (simp only [List.getElem?_toArray, List.getElem?_cons_succ, List.getElem?_cons_zero]; try rfl)
              case hQ66 => exact fun _ _ _ h => h
              case hy66 =>
                refine Or.inl ⟨by rfl, ?_⟩
                (intro wq hSw; (try dsimp only at hSw); go_simp; try with_reducible rfl)
              (try simp only [Act.put, List.setIfInBounds_toArray, List.set_cons_zero, List.set_cons_succ])
              refine wpAnyH_done (by kernel_rfl) ?_ _
              refine NoPanic.normal ?_
              (go_wp2_with fail; go_ret; exact ⟨rfl, below_step bw12 hHeld⟩)
            refine AllReadyH.cons (o := ?oi67) ?hi67 (fun K hK => ?hstep67) ?hmore67
            case hi67 => (simp only [List.getElem?_toArray, List.getElem?_cons_succ, List.getElem?_cons_zero]; try rfl)
            case hstep67 =>
              go_simp
              (have hh0 := hHeld; (first | refine newvar_Kd ?_ | refine newvar_K ?_); intro wx hbx nv nf nz; have hwx := below_step hh0 hbx; have lgy := one_lg (nv 0 _ rfl) (nv 1 _ rfl) (nv 2 _ rfl) (hys12.keep (fun p u hp => cell_on hwx hp)); (try have lgz := lgz.below hbx); clear nv nf)
              refine hK.out _ _ ?_ (fun hHeld => ?_)
              · exact below_step hHeld hbx
              clear hK K
              (try simp only [Act.put, List.setIfInBounds_toArray, List.set_cons_zero, List.set_cons_succ])
              refine wpAnyH_ready (rs := [40]) (by kernel_rfl) (by simp) ?_
              refine AllReadyH.cons (o := ?oi68) ?hi68 (fun K hK => ?hstep68) AllReadyH.nil
              case hi68 => (simp only [List.getElem?_toArray, List.getElem?_cons_succ, List.getElem?_cons_zero]; try rfl)
              go_simp
              (have hh0 := hHeld; (first | refine newvar_Kd ?_ | refine newvar_K ?_); intro wx hbx nv nf nz; have hwx := below_step hh0 hbx; have lgz := one_lg (nv 0 _ rfl) (nv 1 _ rfl) (nv 2 _ rfl) (hzs12.keep (fun p u hp => cell_on hwx hp)); (try have lgy := lgy.below hbx); clear nv nf)
              refine hK.out _ _ ?_ (fun hHeld => ?_)
              · exact below_step hHeld hbx
              clear hK K
              (try simp only [Act.put, List.setIfInBounds_toArray, List.set_cons_zero, List.set_cons_succ])
              refine wpAnyH_ready (rs := [43]) (by kernel_rfl) (by simp) ?_
              refine AllReadyH.cons (o := ?oi69) ?hi69 (fun K hK => ?hstep69) AllReadyH.nil
              case hi69 => (simp only [List.getElem?_toArray, List.getElem?_cons_succ, List.getElem?_cons_zero]; try rfl)
              go_simp
              (refine (KT.out _ _ _ lgz lgy).mono ?_; rintro e wx ⟨rfl, hbx⟩)
              refine hK.out _ _ ?_ (fun hHeld => ?_)
              · exact below_step hHeld hbx
              clear hK K
              (try simp only [Act.put, List.setIfInBounds_toArray, List.set_cons_zero, List.set_cons_succ])
              refine wpAnyH_take (i := 44) (oi := ?oi70) (v := ?v70) ?hi70 (by kernel_rfl) (by kernel_rfl) (by kernel_rfl) ?hQ70 ?hy70 (by assumption) ?hrest70
              case hi70 => (simp only [List.getElem?_toArray, List.getElem?_cons_succ, List.getElem?_cons_zero]; try rfl)
              case hQ70 => exact fun _ _ _ h => h
              case hy70 =>
                refine Or.inl ⟨by rfl, ?_⟩
                (intro wq hSw; (try dsimp only at hSw); go_simp; try with_reducible rfl)
              (try simp only [Act.put, List.setIfInBounds_toArray, List.set_cons_zero, List.set_cons_succ])
              refine wpAnyH_take (i := 45) (oi := ?oi71) (v := ?v71) ?hi71 (by kernel_rfl) (by kernel_rfl) (by kernel_rfl) ?hQ71 ?hy71 (by assumption) ?hrest71
              case hi71 => (simp only [List.getElem?_toArray, List.getElem?_cons_succ, List.getElem?_cons_zero]; try rfl)
              case hQ71 => exact fun _ _ _ h => h
              case hy71 =>
                refine Or.inl ⟨by rfl, ?_⟩
                (intro wq hSw; (try dsimp only at hSw); go_simp; try with_reducible rfl)
              (try simp only [Act.put, List.setIfInBounds_toArray, List.set_cons_zero, List.set_cons_succ])
              refine wpAnyH_take (i := 46) (oi := ?oi72) (v := ?v72) ?hi72 (by kernel_rfl) (by kernel_rfl) (by kernel_rfl) ?hQ72 ?hy72 (by assumption) ?hrest72
              case hi72 => (simp only [List.getElem?_toArray, List.getElem?_cons_succ, List.getElem?_cons_zero]; try rfl)
              case hQ72 => exact fun _ _ _ h => h
              case hy72 =>
                refine Or.inl ⟨by rfl, ?_⟩
                (intro wq hSw; (try dsimp only at hSw); go_simp; try with_reducible rfl)
              (try simp only [Act.put, List.setIfInBounds_toArray, List.set_cons_zero, List.set_cons_succ])
              refine wpAnyH_done (by kernel_rfl) ?_ _
              refine NoPanic.normal ?_
              (go_wp2_with fail; go_ret; exact ⟨rfl, below_step bw12 hHeld⟩)
            exact AllReadyH.nil
          · rw [p1] at kac
            rw [p2] at kal
            have KAl := hid kal
            have KAc := hid kac
            clear kal kac p1 p2 ke1 ke2 hE1 hE2
            go_wp2_with fail
            refine (KAl.out _ hb).mono ?_
            unfold En.agg
            rintro e w9 ⟨z, rfl, hzd, hzs, hb9⟩
            have ha10 := below_alloc w9 (.cells #[.int .i64 z.c, .int .i64 z.r, .slice z.A z.op.length z.cap] 32)
            have Z := hid (Var3.new w9 (.int .i64 z.c) (.int .i64 z.r) (.slice z.A z.op.length z.cap) 32)
            obtain ⟨w10, hw10⟩ : ∃ w10, w9.alloc (.cells #[.int .i64 z.c, .int .i64 z.r, .slice z.A z.op.length z.cap] 32) = w10 := ⟨_, rfl⟩
            rw [hw10] at ha10 Z
            have b10 := below_step hb9 ha10
            have hzs10 := hzs.keep (fun p u hp => cell_on ha10 hp)
            obtain ⟨c0, c1, _⟩ := hV.on b10
            go_wp2_with fail
            refine (KAc.out _ b10).mono ?_
            unfold En.agg
            rintro e w11 ⟨y, rfl, hyd, hys, hb11⟩
            have ha12 := below_alloc w11 (.cells #[.int .i64 y.c, .int .i64 y.r, .slice y.A y.op.length y.cap] 32)
            have Y := hid (Var3.new w11 (.int .i64 y.c) (.int .i64 y.r) (.slice y.A y.op.length y.cap) 32)
            obtain ⟨w12, hw12⟩ : ∃ w12, w11.alloc (.cells #[.int .i64 y.c, .int .i64 y.r, .slice y.A y.op.length y.cap] 32) = w12 := ⟨_, rfl⟩
            rw [hw12] at ha12 Y
            have b1012 := below_step hb11 ha12
            have b12 := below_step b10 b1012
            have bw12 := below_step hb b12
            obtain ⟨v0, v1, _⟩ := hT.on b12
            obtain ⟨u0, u1, _⟩ := hU.on b12
            obtain ⟨c0, c1, _⟩ := hV.on b12
            obtain ⟨z0, z1, z2, _⟩ := Z.out.on b1012
            obtain ⟨y0, y1, y2, _⟩ := Y.out
            have hzs12 := hzs10.keep (fun p u hp => cell_on b1012 hp)
            have hys12 := hys.keep (fun p u hp => cell_on ha12 hp)
            have v0q := fun W (hW : Below w12.heap.size w12 W) => cell_on hW v0
            have v1q := fun W (hW : Below w12.heap.size w12 W) => cell_on hW v1
            have u0q := fun W (hW : Below w12.heap.size w12 W) => cell_on hW u0
            have u1q := fun W (hW : Below w12.heap.size w12 W) => cell_on hW u1
            have c0q := fun W (hW : Below w12.heap.size w12 W) => cell_on hW c0
            have c1q := fun W (hW : Below w12.heap.size w12 W) => cell_on hW c1
            have z0q := fun W (hW : Below w12.heap.size w12 W) => cell_on hW z0
            have z1q := fun W (hW : Below w12.heap.size w12 W) => cell_on hW z1
            have z2q := fun W (hW : Below w12.heap.size w12 W) => cell_on hW z2
            have y0q := fun W (hW : Below w12.heap.size w12 W) => cell_on hW y0
            have y1q := fun W (hW : Below w12.heap.size w12 W) => cell_on hW y1
            have y2q := fun W (hW : Below w12.heap.size w12 W) => cell_on hW y2
            clear v0 v1 u0 u1 c0 c1 z0 z1 z2 y0 y1 y2
            go_upto_region 19 with fail
            refine wp_region_noPanic ?_
            refine wp_region_held_drew (S := (fun W => Below w12.heap.size w12 W)) (by kernel_rfl) ?_ (fun hHeld => ?_)
            · exact (Below.refl _ _).drew
            refine wpAnyH_take (i := 0) (oi := ?oi73) (v := ?v73) ?hi73 (by kernel_rfl) (by kernel_rfl) (by kernel_rfl) ?hQ73 ?hy73 (by assumption) ?hrest73
            case hi73 => (simp only [List.getElem?_toArray, List.getElem?_cons_zero]; try rfl)
            case hQ73 => exact fun _ _ _ h => h
            case hy73 =>
              refine Or.inl ⟨by rfl, ?_⟩
              (intro wq hSw; (try dsimp only at hSw); go_simp; try with_reducible rfl)
            (try simp only [Act.put, List.setIfInBounds_toArray, List.set_cons_zero, List.set_cons_succ])
            refine wpAnyH_take (i := 1) (oi := ?oi74) (v := ?v74) ?hi74 (by kernel_rfl) (by kernel_rfl) (by kernel_rfl) ?hQ74 ?hy74 (by assumption) ?hrest74
            case hi74 => (simp only [List.getElem?_toArray, List.getElem?_cons_succ, List.getElem?_cons_zero]; try rfl)
            case hQ74 => exact fun _ _ _ h => h
            case hy74 =>
              refine Or.inl ⟨by rfl, ?_⟩
              (intro wq hSw; (try dsimp only at hSw); go_simp; try with_reducible rfl)
            (try simp only [Act.put, List.setIfInBounds_toArray, List.set_cons_zero, List.set_cons_succ])
            refine wpAnyH_take (i := 2) (oi := ?oi75) (v := ?v75) ?hi75 (by kernel_rfl) (by kernel_rfl) (by kernel_rfl) ?hQ75 ?hy75 (by assumption) ?hrest75
            case hi75 => (simp only [List.getElem?_toArray, List.getElem?_cons_succ, List.getElem?_cons_zero]; try rfl)
            case hQ75 => exact fun _ _ _ h => h
            case hy75 =>
              refine Or.inl ⟨by rfl, ?_⟩
              (intro wq hSw; (try dsimp only at hSw); go_simp; try with_reducible rfl)
            (try simp only [Act.put, List.setIfInBounds_toArray, List.set_cons_zero, List.set_cons_succ])
            refine wpAnyH_take (i := 3) (oi := ?oi76) (v := ?v76) ?hi76 (by kernel_rfl) (by kernel_rfl) (by kernel_rfl) ?hQ76 ?hy76 (by assumption) ?hrest76
            case hi76 => (simp only [List.getElem?_toArray, List.getElem?_cons_succ, List.getElem?_cons_zero]; try rfl)
            case hQ76 => exact fun _ _ _ h => h
            case hy76 =>
              refine Or.inl ⟨by rfl, ?_⟩
              (intro wq hSw; (try dsimp only at hSw); go_simp; try with_reducible rfl)
            (try simp only [Act.put, List.setIfInBounds_toArray, List.set_cons_zero, List.set_cons_succ])
            refine wpAnyH_ready (rs := [4]) (by kernel_rfl) (by simp) ?_
            refine AllReadyH.cons (o := ?oi77) ?hi77 (fun K hK => ?hstep77) AllReadyH.nil
            case hi77 => (simp only [List.getElem?_toArray, List.getElem?_cons_succ, List.getElem?_cons_zero]; try rfl)
            go_simp
            (refine (KS1.out _ (below_step b12 hHeld)).mono ?_; rintro e wx ⟨rfl, hbx⟩)
            refine hK.out _ _ ?_ (fun hHeld => ?_)
            · exact below_step hHeld hbx
            clear hK K
            (try simp only [Act.put, List.setIfInBounds_toArray, List.set_cons_zero, List.set_cons_succ])
            refine wpAnyH_take (i := 5) (oi := ?oi78) (v := ?v78) ?hi78 (by kernel_rfl) (by kernel_rfl) (by kernel_rfl) ?hQ78 ?hy78 (by assumption) ?hrest78
            case hi78 => (simp only [List.getElem?_toArray, List.getElem?_cons_succ, List.getElem?_cons_zero]; try rfl)
            case hQ78 => exact fun _ _ _ h => h
            case hy78 =>
              refine Or.inl ⟨by rfl, ?_⟩
              (intro wq hSw; (try dsimp only at hSw); go_simp; try with_reducible rfl)
            (try simp only [Act.put, List.setIfInBounds_toArray, List.set_cons_zero, List.set_cons_succ])
            refine wpAnyH_take (i := 6) (oi := ?oi79) (v := ?v79) ?hi79 (by kernel_rfl) (by kernel_rfl) (by kernel_rfl) ?hQ79 ?hy79 (by assumption) ?hrest79
            case hi79 => (simp only [List.getElem?_toArray, List.getElem?_cons_succ, List.getElem?_cons_zero]; try rfl)
            case hQ79 => exact fun _ _ _ h => h
            case hy79 =>
              refine Or.inl ⟨by rfl, ?_⟩
              (intro wq hSw; (try dsimp only at hSw); go_simp; try with_reducible rfl)
            (try simp only [Act.put, List.setIfInBounds_toArray, List.set_cons_zero, List.set_cons_succ])
            refine wpAnyH_take (i := 7) (oi := ?oi80) (v := ?v80) ?hi80 (by kernel_rfl) (by kernel_rfl) (by kernel_rfl) ?hQ80 ?hy80 (by assumption) ?hrest80
            case hi80 => (simp only [List.getElem?_toArray, List.getElem?_cons_succ, List.getElem?_cons_zero]; try rfl)
            case hQ80 => exact fun _ _ _ h => h
            case hy80 =>
              refine Or.inl ⟨by rfl, ?_⟩
              (intro wq hSw; (try dsimp only at hSw); go_simp; try with_reducible rfl)
            (try simp only [Act.put, List.setIfInBounds_toArray, List.set_cons_zero, List.set_cons_succ])
            refine wpAnyH_take (i := 8) (oi := ?oi81) (v := ?v81) ?hi81 (by kernel_rfl) (by kernel_rfl) (by kernel_rfl) ?hQ81 ?hy81 (by assumption) ?hrest81
            case hi81 => (simp only [List.getElem?_toArray, List.getElem?_cons_succ, List.getElem?_cons_zero]; try rfl)
            case hQ81 => exact fun _ _ _ h => h
            case hy81 =>
              refine Or.inl ⟨by rfl, ?_⟩
              (intro wq hSw; (try dsimp only at hSw); go_simp; try with_reducible rfl)
            (try simp only [Act.put, List.setIfInBounds_toArray, List.set_cons_zero, List.set_cons_succ])
            refine wpAnyH_take (i := 9) (oi := ?oi82) (v := ?v82) ?hi82 (by kernel_rfl) (by kernel_rfl) (by kernel_rfl) ?hQ82 ?hy82 (by assumption) ?hrest82
            case hi82 => (simp only [List.getElem?_toArray, List.getElem?_cons_succ, List.getElem?_cons_zero]; try rfl)
            case hQ82 => exact fun _ _ _ h => h
            case hy82 =>
              refine Or.inl ⟨by rfl, ?_⟩
              (intro wq hSw; (try dsimp only at hSw); go_simp; try with_reducible rfl)
            (try simp only [Act.put, List.setIfInBounds_toArray, List.set_cons_zero, List.set_cons_succ])
            refine wpAnyH_ready (rs := [10]) (by kernel_rfl) (by simp) ?_
            refine AllReadyH.cons (o := ?oi83) ?hi83 (fun K hK => ?hstep83) AllReadyH.nil
            case hi83 => (simp only [List.getElem?_toArray, List.getElem?_cons_succ, List.getElem?_cons_zero]; try rfl)
            go_simp
            (refine (KS2.out _ (below_step b12 hHeld)).mono ?_; rintro e wx ⟨rfl, hbx⟩)
            refine hK.out _ _ ?_ (fun hHeld => ?_)
            · exact below_step hHeld hbx
            clear hK K
            (try simp only [Act.put, List.setIfInBounds_toArray, List.set_cons_zero, List.set_cons_succ])
            refine wpAnyH_take (i := 11) (oi := ?oi84) (v := ?v84) ?hi84 (by kernel_rfl) (by kernel_rfl) (by kernel_rfl) ?hQ84 ?hy84 (by assumption) ?hrest84
            case hi84 => (simp only [List.getElem?_toArray, List.getElem?_cons_succ, List.getElem?_cons_zero]; try rfl)
            case hQ84 => exact fun _ _ _ h => h
            case hy84 =>
              refine Or.inl ⟨by rfl, ?_⟩
              (intro wq hSw; (try dsimp only at hSw); go_simp; try with_reducible rfl)
            (try simp only [Act.put, List.setIfInBounds_toArray, List.set_cons_zero, List.set_cons_succ])
            refine wpAnyH_take (i := 12) (oi := ?oi85) (v := ?v85) ?hi85 (by kernel_rfl) (by kernel_rfl) (by kernel_rfl) ?hQ85 ?hy85 (by assumption) ?hrest85
            case hi85 => (simp only [List.getElem?_toArray, List.getElem?_cons_succ, List.getElem?_cons_zero]; try rfl)
            case hQ85 => exact fun _ _ _ h => h
            case hy85 =>
              refine Or.inl ⟨by rfl, ?_⟩
              (intro wq hSw; (try dsimp only at hSw); go_simp; try with_reducible rfl)
            (try simp only [Act.put, List.setIfInBounds_toArray, List.set_cons_zero, List.set_cons_succ])
            refine wpAnyH_take (i := 13) (oi := ?oi86) (v := ?v86) ?hi86 (by kernel_rfl) (by kernel_rfl) (by kernel_rfl) ?hQ86 ?hy86 (by assumption) ?hrest86
            case hi86 => (simp only [List.getElem?_toArray, List.getElem?_cons_succ, List.getElem?_cons_zero]; try rfl)
            case hQ86 => exact fun _ _ _ h => h
            case hy86 =>
              refine Or.inl ⟨by rfl, ?_⟩
              (intro wq hSw; (try dsimp only at hSw); go_simp; try with_reducible rfl)
            (try simp only [Act.put, List.setIfInBounds_toArray, List.set_cons_zero, List.set_cons_succ])
            refine wpAnyH_take (i := 14) (oi := ?oi87) (v := ?v87) ?hi87 (by kernel_rfl) (by kernel_rfl) (by kernel_rfl) ?hQ87 ?hy87 (by assumption) ?hrest87
            case hi87 => (simp only [List.getElem?_toArray, List.getElem?_cons_succ, List.getElem?_cons_zero]; try rfl)
            case hQ87 => exact fun _ _ _ h => h
            case hy87 =>
              refine Or.inl ⟨by rfl, ?_⟩
              (intro wq hSw; (try dsimp only at hSw); go_simp; try with_reducible rfl)
            (try simp only [Act.put, List.setIfInBounds_toArray, List.set_cons_zero, List.set_cons_succ])
            refine wpAnyH_take (i := 15) (oi := ?oi88) (v := ?v88) ?hi88 (by kernel_rfl) (by kernel_rfl) (by kernel_rfl) ?hQ88 ?hy88 (by assumption) ?hrest88
            case hi88 => (simp only [List.getElem?_toArray, List.getElem?_cons_succ, List.getElem?_cons_zero]; try rfl)
            case hQ88 => exact fun _ _ _ h => h
            case hy88 =>
              refine Or.inl ⟨by rfl, ?_⟩
              (intro wq hSw; (try dsimp only at hSw); go_simp; try with_reducible rfl)
            (try simp only [Act.put, List.setIfInBounds_toArray, List.set_cons_zero, List.set_cons_succ])
            refine wpAnyH_take (i := 16) (oi := ?oi89) (v := ?v89) ?hi89 (by kernel_rfl) (by kernel_rfl) (by kernel_rfl) ?hQ89 ?hy89 (by assumption) ?hrest89
            case hi89 => (simp only [List.getElem?_toArray, List.getElem?_cons_succ, List.getElem?_cons_zero]; try rfl)
            case hQ89 => exact fun _ _ _ h => h
            case hy89 =>
              refine Or.inl ⟨by rfl, ?_⟩
              (intro wq hSw; (try dsimp only at hSw); go_simp; try with_reducible rfl)
            (try simp only [Act.put, List.setIfInBounds_toArray, List.set_cons_zero, List.set_cons_succ])
            refine wpAnyH_take (i := 17) (oi := ?oi90) (v := ?v90) ?hi90 (by kernel_rfl) (by kernel_rfl) (by kernel_rfl) ?hQ90 ?hy90 (by assumption) ?hrest90
            case hi90 => (simp only [List.getElem?_toArray, List.getElem?_cons_succ, List.getElem?_cons_zero]; try rfl)
            case hQ90 => exact fun _ _ _ h => h
            case hy90 =>
              refine Or.inl ⟨by rfl, ?_⟩
              (intro wq hSw; (try dsimp only at hSw); go_simp; try with_reducible rfl)
            (try simp only [Act.put, List.setIfInBounds_toArray, List.set_cons_zero, List.set_cons_succ])
            refine wpAnyH_take (i := 18) (oi := ?oi91) (v := ?v91) ?hi91 (by kernel_rfl) (by kernel_rfl) (by kernel_rfl) ?hQ91 ?hy91 (by assumption) ?hrest91
            case hi91 => (simp only [List.getElem?_toArray, List.getElem?_cons_succ, List.getElem?_cons_zero]; try rfl)
            case hQ91 => exact fun _ _ _ h => h
            case hy91 =>
              refine Or.inl ⟨by rfl, ?_⟩
              (intro wq hSw; (try dsimp only at hSw); go_simp; try with_reducible rfl)
            (try simp only [Act.put, List.setIfInBounds_toArray, List.set_cons_zero, List.set_cons_succ])
            refine wpAnyH_take (i := 19) (oi := ?oi92) (v := ?v92) ?hi92 (by kernel_rfl) (by kernel_rfl) (by kernel_rfl) ?hQ92 ?hy92 (by assumption) ?hrest92
            case hi92 => (simp only [List.getElem?_toArray, List.getElem?_cons_succ, List.getElem?_cons_zero]; try rfl)
            case hQ92 => exact fun _ _ _ h => h
            case hy92 =>
              refine Or.inl ⟨by rfl, ?_⟩
              (intro wq hSw; (try dsimp only at hSw); go_simp; try with_reducible rfl)
            (try simp only [Act.put, List.setIfInBounds_toArray, List.set_cons_zero, List.set_cons_succ])
            refine wpAnyH_take (i := 21) (oi := ?oi93) (v := ?v93) ?hi93 (by kernel_rfl) (by kernel_rfl) (by kernel_rfl) ?hQ93 ?hy93 (by assumption) ?hrest93
            case hi93 => (simp only [List.getElem?_toArray, List.getElem?_cons_succ, List.getElem?_cons_zero]; try rfl)
            case hQ93 => exact fun _ _ _ h => h
            case hy93 =>
              refine Or.inl ⟨by rfl, ?_⟩
              (intro wq hSw; (try dsimp only at hSw); go_simp; try with_reducible rfl)
            (try simp only [Act.put, List.setIfInBounds_toArray, List.set_cons_zero, List.set_cons_succ])
            refine wpAnyH_ready (rs := [20]) (by kernel_rfl) (by simp) ?_
            refine AllReadyH.cons (o := ?oi94) ?hi94 (fun K hK => ?hstep94) AllReadyH.nil
            case hi94 => (simp only [List.getElem?_toArray, List.getElem?_cons_succ, List.getElem?_cons_zero]; try rfl)
            go_simp
            (refine (KE1.out _ (below_step b12 hHeld)).mono ?_; rintro e wx ⟨rfl, hbx⟩)
            refine hK.out _ _ ?_ (fun hHeld => ?_)
            · exact below_step hHeld hbx
            clear hK K
            (try simp only [Act.put, List.setIfInBounds_toArray, List.set_cons_zero, List.set_cons_succ])
            refine wpAnyH_ready (rs := [22]) (by kernel_rfl) (by simp) ?_
            refine AllReadyH.cons (o := ?oi95) ?hi95 (fun K hK => ?hstep95) AllReadyH.nil
            case hi95 => (simp only [List.getElem?_toArray, List.getElem?_cons_succ, List.getElem?_cons_zero]; try rfl)
            go_simp
            (refine (KE2.out _ (below_step bw12 hHeld)).mono ?_; rintro e wx ⟨rfl, hbx⟩)
            refine hK.out _ _ ?_ (fun hHeld => ?_)
            · exact below_step hHeld hbx
            clear hK K
            (try simp only [Act.put, List.setIfInBounds_toArray, List.set_cons_zero, List.set_cons_succ])
            refine wpAnyH_take (i := 23) (oi := ?oi96) (v := ?v96) ?hi96 (by kernel_rfl) (by kernel_rfl) (by kernel_rfl) ?hQ96 ?hy96 (by assumption) ?hrest96
            case hi96 => (simp only [List.getElem?_toArray, List.getElem?_cons_succ, List.getElem?_cons_zero]; try rfl)
            case hQ96 => exact fun _ _ _ h => h
            case hy96 =>
              refine Or.inl ⟨by rfl, ?_⟩
              (intro wq hSw; (try dsimp only at hSw); go_simp; try with_reducible rfl)
            (try simp only [Act.put, List.setIfInBounds_toArray, List.set_cons_zero, List.set_cons_succ])
            refine wpAnyH_take (i := 24) (oi := ?oi97) (v := ?v97) ?hi97 (by kernel_rfl) (by kernel_rfl) (by kernel_rfl) ?hQ97 ?hy97 (by assumption) ?hrest97
            case hi97 => (simp only [List.getElem?_toArray, List.getElem?_cons_succ, List.getElem?_cons_zero]; try rfl)
            case hQ97 => exact fun _ _ _ h => h
            case hy97 =>
              refine Or.inl ⟨by rfl, ?_⟩
              (intro wq hSw; (try dsimp only at hSw); go_simp; try with_reducible rfl)
            (try simp only [Act.put, List.setIfInBounds_toArray, List.set_cons_zero, List.set_cons_succ])
            refine wpAnyH_take (i := 25) (oi := ?oi98) (v := ?v98) ?hi98 (by kernel_rfl) (by kernel_rfl) (by kernel_rfl) ?hQ98 ?hy98 (by assumption) ?hrest98
            case hi98 => (simp only [List.getElem?_toArray, List.getElem?_cons_succ, List.getElem?_cons_zero]; try rfl)
            case hQ98 => exact fun _ _ _ h => h
            case hy98 =>
              refine Or.inl ⟨by rfl, ?_⟩
              (intro wq hSw; (try dsimp only at hSw); go_simp; try with_reducible rfl)
            (try simp only [Act.put, List.setIfInBounds_toArray, List.set_cons_zero, List.set_cons_succ])
            refine wpAnyH_take (i := 26) (oi := ?oi99) (v := ?v99) ?hi99 (by kernel_rfl) (by kernel_rfl) (by kernel_rfl) ?hQ99 ?hy99 (by assumption) ?hrest99
            case hi99 => (simp only [List.getElem?_toArray, List.getElem?_cons_succ, List.getElem?_cons_zero]; try rfl)
            case hQ99 => exact fun _ _ _ h => h
            case hy99 =>
              refine Or.inl ⟨by rfl, ?_⟩
              (intro wq hSw; (try dsimp only at hSw); go_simp; try with_reducible rfl)
            (try simp only [Act.put, List.setIfInBounds_toArray, List.set_cons_zero, List.set_cons_succ])
            refine wpAnyH_take (i := 27) (oi := ?oi100) (v := ?v100) ?hi100 (by kernel_rfl) (by kernel_rfl) (by kernel_rfl) ?hQ100 ?hy100 (by assumption) ?hrest100
            case hi100 => (simp only [List.getElem?_toArray, List.getElem?_cons_succ, List.getElem?_cons_zero]; try rfl)
            case hQ100 => exact fun _ _ _ h => h
            case hy100 =>
              refine Or.inl ⟨by rfl, ?_⟩
              (intro wq hSw; (try dsimp only at hSw); go_simp; try with_reducible rfl)
            (try simp only [Act.put, List.setIfInBounds_toArray, List.set_cons_zero, List.set_cons_succ])
            refine wpAnyH_take (i := 28) (oi := ?oi101) (v := ?v101) ?hi101 (by kernel_rfl) (by kernel_rfl) (by kernel_rfl) ?hQ101 ?hy101 (by assumption) ?hrest101
            case hi101 => (simp only [List.getElem?_toArray, List.getElem?_cons_succ, List.getElem?_cons_zero]; try rfl)
            case hQ101 => exact fun _ _ _ h => h
            case hy101 =>
              refine Or.inl ⟨by rfl, ?_⟩
              (intro wq hSw; (try dsimp only at hSw); go_simp; try with_reducible rfl)
            (try simp only [Act.put, List.setIfInBounds_toArray, List.set_cons_zero, List.set_cons_succ])
            refine wpAnyH_take (i := 29) (oi := ?oi102) (v := undef) ?hi102 (by kernel_rfl) (by kernel_rfl) (by kernel_rfl) ?hQ102 ?hy102 (by assumption) ?hrest102
            case hi102 => (simp only [List.getElem?_toArray, List.getElem?_cons_succ, List.getElem?_cons_zero]; try rfl)
            case hQ102 => exact fun _ _ _ h => h
            case hy102 => exact Or.inr ⟨by rfl, rfl⟩
            (try simp only [Act.put, List.setIfInBounds_toArray, List.set_cons_zero, List.set_cons_succ])
            refine wpAnyH_take (i := 30) (oi := ?oi103) (v := undef) ?hi103 (by kernel_rfl) (by kernel_rfl) (by kernel_rfl) ?hQ103 ?hy103 (by assumption) ?hrest103
            case hi103 => (simp only [List.getElem?_toArray, List.getElem?_cons_succ, List.getElem?_cons_zero]; try rfl)
            case hQ103 => exact fun _ _ _ h => h
            case hy103 => exact Or.inr ⟨by rfl, rfl⟩
            (try simp only [Act.put, List.setIfInBounds_toArray, List.set_cons_zero, List.set_cons_succ])
            refine wpAnyH_take (i := 31) (oi := ?oi104) (v := undef) ?hi104 (by kernel_rfl) (by kernel_rfl) (by kernel_rfl) ?hQ104 ?hy104 (by assumption) ?hrest104
            case hi104 => (simp only [List.getElem?_toArray, List.getElem?_cons_succ, List.getElem?_cons_zero]; try rfl)
            case hQ104 => exact fun _ _ _ h => h
            case hy104 => exact Or.inr ⟨by rfl, rfl⟩
            (try simp only [Act.put, List.setIfInBounds_toArray, List.set_cons_zero, List.set_cons_succ])
            refine wpAnyH_take (i := 32) (oi := ?oi105) (v := ?v105) ?hi105 (by kernel_rfl) (by kernel_rfl) (by kernel_rfl) ?hQ105 ?hy105 (by assumption) ?hrest105
            case hi105 => (simp only [List.getElem?_toArray, List.getElem?_cons_succ, List.getElem?_cons_zero]; try rfl)
            case hQ105 => exact fun _ _ _ h => h
            case hy105 =>
              refine Or.inl ⟨by rfl, ?_⟩
              (intro wq hSw; (try dsimp only at hSw); go_simp; try with_reducible rfl)
            (try simp only [Act.put, List.setIfInBounds_toArray, List.set_cons_zero, List.set_cons_succ])
            refine wpAnyH_take (i := 33) (oi := ?oi106) (v := ?v106) ?hi106 (by kernel_rfl) (by kernel_rfl) (by kernel_rfl) ?hQ106 ?hy106 (by assumption) ?hrest106
            case hi106 => (simp only [List.getElem?_toArray, List.getElem?_cons_succ, List.getElem?_cons_zero]; try rfl)
            case hQ106 => exact fun _ _ _ h => h
            case hy106 =>
              refine Or.inl ⟨by rfl, ?_⟩
              (intro wq hSw; (try dsimp only at hSw); go_simp; try with_reducible rfl)
            (try simp only [Act.put, List.setIfInBounds_toArray, List.set_cons_zero, List.set_cons_succ])
            refine wpAnyH_take (i := 34) (oi := ?oi107) (v := ?v107) ?hi107 (by kernel_rfl) (by kernel_rfl) (by kernel_rfl) ?hQ107 ?hy107 (by assumption) ?hrest107
            case hi107 => (simp only [List.getElem?_toArray, List.getElem?_cons_succ, List.getElem?_cons_zero]; try rfl)
            case hQ107 => exact fun _ _ _ h => h
            case hy107 =>
              refine Or.inl ⟨by rfl, ?_⟩
              (intro wq hSw; (try dsimp only at hSw); go_simp; try with_reducible rfl)
            (try simp only [Act.put, List.setIfInBounds_toArray, List.set_cons_zero, List.set_cons_succ])
            refine wpAnyH_take (i := 35) (oi := ?oi108) (v := ?v108) ?hi108 (by kernel_rfl) (by kernel_rfl) (by kernel_rfl) ?hQ108 ?hy108 (by assumption) ?hrest108
            case hi108 => (simp only [List.getElem?_toArray, List.getElem?_cons_succ, List.getElem?_cons_zero]; try rfl)
            case hQ108 => exact fun _ _ _ h => h
            case hy108 =>
              refine Or.inl ⟨by rfl, ?_⟩
              (intro wq hSw; (try dsimp only at hSw); go_simp; try with_reducible rfl)
            (try simp only [Act.put, List.setIfInBounds_toArray, List.set_cons_zero, List.set_cons_succ])
            refine wpAnyH_take (i := 36) (oi := ?oi109) (v := ?v109) ?hi109 (by kernel_rfl) (by kernel_rfl) (by kernel_rfl) ?hQ109 ?hy109 (by assumption) ?hrest109
            case hi109 => (simp only [List.getElem?_toArray, List.getElem?_cons_succ, List.getElem?_cons_zero]; try rfl)
            case hQ109 => exact fun _ _ _ h => h
            case hy109 =>
              refine Or.inl ⟨by rfl, ?_⟩
              (intro wq hSw; (try dsimp only at hSw); go_simp; try with_reducible rfl)
            (try simp only [Act.put, List.setIfInBounds_toArray, List.set_cons_zero, List.set_cons_succ])
            refine wpAnyH_take (i := 37) (oi := ?oi110) (v := ?v110) ?hi110 (by kernel_rfl) (by kernel_rfl) (by kernel_rfl) ?hQ110 ?hy110 (by assumption) ?hrest110
            case hi110 => (simp only [List.getElem?_toArray, List.getElem?_cons_succ, List.getElem?_cons_zero]; try rfl)
            case hQ110 => exact fun _ _ _ h => h
            case hy110 =>
              refine Or.inl ⟨by rfl, ?_⟩
              (intro wq hSw; (try dsimp only at hSw); go_simp; try with_reducible rfl)
            (try simp only [Act.put, List.setIfInBounds_toArray, List.set_cons_zero, List.set_cons_succ])
            refine wpAnyH_take (i := 38) (oi := ?oi111) (v := ?v111) ?hi111 (by kernel_rfl) (by kernel_rfl) (by kernel_rfl) ?hQ111 ?hy111 (by assumption) ?hrest111
            case hi111 => (simp only [List.getElem?_toArray, List.getElem?_cons_succ, List.getElem?_cons_zero]; try rfl)
            case hQ111 => exact fun _ _ _ h => h
            case hy111 =>
              refine Or.inl ⟨by rfl, ?_⟩
              (intro wq hSw; (try dsimp only at hSw); go_simp; try with_reducible rfl)
            (try simp only [Act.put, List.setIfInBounds_toArray, List.set_cons_zero, List.set_cons_succ])
            refine wpAnyH_take (i := 39) (oi := ?oi112) (v := undef) ?hi112 (by kernel_rfl) (by kernel_rfl) (by kernel_rfl) ?hQ112 ?hy112 (by assumption) ?hrest112
            case hi112 => (simp only [List.getElem?_toArray, List.getElem?_cons_succ, List.getElem?_cons_zero]; try rfl)
            case hQ112 => exact fun _ _ _ h => h
            case hy112 => exact Or.inr ⟨by rfl, rfl⟩
            (try simp only [Act.put, List.setIfInBounds_toArray, List.set_cons_zero, List.set_cons_succ])
            refine wpAnyH_take (i := 40) (oi := ?oi113) (v := undef) ?hi113 (by kernel_rfl) (by kernel_rfl) (by kernel_rfl) ?hQ113 ?hy113 (by assumption) ?hrest113
            case hi113 => (simp only [List.getElem?_toArray, List.getElem?_cons_succ, List.getElem?_cons_zero]; try rfl)
            case hQ113 => exact fun _ _ _ h => h
            case hy113 => exact Or.inr ⟨by rfl, rfl⟩
            (try simp only [Act.put, List.setIfInBounds_toArray, List.set_cons_zero, List.set_cons_succ])
            refine wpAnyH_take (i := 41) (oi := ?oi114) (v := undef) ?hi114 (by kernel_rfl) (by kernel_rfl) (by kernel_rfl) ?hQ114 ?hy114 (by assumption) ?hrest114
            case hi114 => (simp only [List.getElem?_toArray, List.getElem?_cons_succ, List.getElem?_cons_zero]; try rfl)
            case hQ114 => exact fun _ _ _ h => h
            case hy114 => exact Or.inr ⟨by rfl, rfl⟩
            (try simp only [Act.put, List.setIfInBounds_toArray, List.set_cons_zero, List.set_cons_succ])
            refine wpAnyH_take (i := 42) (oi := ?oi115) (v := undef) ?hi115 (by kernel_rfl) (by kernel_rfl) (by kernel_rfl) ?hQ115 ?hy115 (by assumption) ?hrest115
            case hi115 => (simp only [List.getElem?_toArray, List.getElem?_cons_succ, List.getElem?_cons_zero]; try rfl)
            case hQ115 => exact fun _ _ _ h => h
            case hy115 => exact Or.inr ⟨by rfl, rfl⟩
            (try simp only [Act.put, List.setIfInBounds_toArray, List.set_cons_zero, List.set_cons_succ])
            refine wpAnyH_take (i := 43) (oi := ?oi116) (v := undef) ?hi116 (by kernel_rfl) (by kernel_rfl) (by kernel_rfl) ?hQ116 ?hy116 (by assumption) ?hrest116
            case hi116 => (simp only [List.getElem?_toArray, List.getElem?_cons_succ, List.getElem?_cons_zero]; try rfl)
            case hQ116 => exact fun _ _ _ h => h
            case hy116 => exact Or.inr ⟨by rfl, rfl⟩
            (try simp only [Act.put, List.setIfInBounds_toArray, List.set_cons_zero, List.set_cons_succ])
            refine wpAnyH_take (i := 44) (oi := ?oi117) (v := ?v117) ?hi117 (by kernel_rfl) (by kernel_rfl) (by kernel_rfl) ?hQ117 ?hy117 (by assumption) ?hrest117
            case hi117 => (simp only [List.getElem?_toArray, List.getElem?_cons_succ, List.getElem?_cons_zero]; try rfl)
            case hQ117 => exact fun _ _ _ h => h
            case hy117 =>
              refine Or.inl ⟨by rfl, ?_⟩
              (intro wq hSw; (try dsimp only at hSw); go_simp; try with_reducible rfl)
            (try simp only [Act.put, List.setIfInBounds_toArray, List.set_cons_zero, List.set_cons_succ])
            refine wpAnyH_take (i := 45) (oi := ?oi118) (v := ?v118) ?hi118 (by kernel_rfl) (by kernel_rfl) (by kernel_rfl) ?hQ118 ?hy118 (by assumption) ?hrest118
            case hi118 => (simp only [List.getElem?_toArray, List.getElem?_cons_succ, List.getElem?_cons_zero]; try rfl)
            case hQ118 => exact fun _ _ _ h => h
            case hy118 =>
              refine Or.inl ⟨by rfl, ?_⟩
              (intro wq hSw; (try dsimp only at hSw); go_simp; try with_reducible rfl)
            (try simp only [Act.put, List.setIfInBounds_toArray, List.set_cons_zero, List.set_cons_succ])
            refine wpAnyH_take (i := 46) (oi := ?oi119) (v := ?v119) ?hi119 (by kernel_rfl) (by kernel_rfl) (by kernel_rfl) ?hQ119 ?hy119 (by assumption) ?hrest119
            case hi119 => (simp only [List.getElem?_toArray, List.getElem?_cons_succ, List.getElem?_cons_zero]; try rfl)
            case hQ119 => exact fun _ _ _ h => h
            case hy119 =>
              refine Or.inl ⟨by rfl, ?_⟩
              (intro wq hSw; (try dsimp only at hSw); go_simp; try with_reducible rfl)
            (try simp only [Act.put, List.setIfInBounds_toArray, List.set_cons_zero, List.set_cons_succ])
            refine wpAnyH_done (by kernel_rfl) ?_ _
            refine NoPanic.normal ?_
            (go_wp2_with fail; go_ret; exact ⟨rfl, below_step bw12 hHeld⟩)
          · have p4 := decide_eq_false p3
            rw [p1] at kac
            rw [p2] at kal
            have KAl := hid kal
            have KAc := hid kac
            clear kal kac p1 p2 ke1 ke2 hE1 hE2
            go_wp2_with fail
            refine (KAl.out _ hb).mono ?_
            unfold En.agg
            rintro e w9 ⟨z, rfl, hzd, hzs, hb9⟩
            have ha10 := below_alloc w9 (.cells #[.int .i64 z.c, .int .i64 z.r, .slice z.A z.op.length z.cap] 32)
            have Z := hid (Var3.new w9 (.int .i64 z.c) (.int .i64 z.r) (.slice z.A z.op.length z.cap) 32)
            obtain ⟨w10, hw10⟩ : ∃ w10, w9.alloc (.cells #[.int .i64 z.c, .int .i64 z.r, .slice z.A z.op.length z.cap] 32) = w10 := ⟨_, rfl⟩
            rw [hw10] at ha10 Z
            have b10 := below_step hb9 ha10
            have hzs10 := hzs.keep (fun p u hp => cell_on ha10 hp)
            obtain ⟨c0, c1, _⟩ := hV.on b10
            go_wp2_with fail
            refine (KAc.out _ b10).mono ?_
            unfold En.agg
            rintro e w11 ⟨y, rfl, hyd, hys, hb11⟩
            have ha12 := below_alloc w11 (.cells #[.int .i64 y.c, .int .i64 y.r, .slice y.A y.op.length y.cap] 32)
            have Y := hid (Var3.new w11 (.int .i64 y.c) (.int .i64 y.r) (.slice y.A y.op.length y.cap) 32)
            obtain ⟨w12, hw12⟩ : ∃ w12, w11.alloc (.cells #[.int .i64 y.c, .int .i64 y.r, .slice y.A y.op.length y.cap] 32) = w12 := ⟨_, rfl⟩
            rw [hw12] at ha12 Y
            have b1012 := below_step hb11 ha12
            have b12 := below_step b10 b1012
            have bw12 := below_step hb b12
            obtain ⟨v0, v1, _⟩ := hT.on b12
            obtain ⟨u0, u1, _⟩ := hU.on b12
            obtain ⟨c0, c1, _⟩ := hV.on b12
            obtain ⟨z0, z1, z2, _⟩ := Z.out.on b1012
            obtain ⟨y0, y1, y2, _⟩ := Y.out
            have hzs12 := hzs10.keep (fun p u hp => cell_on b1012 hp)
            have hys12 := hys.keep (fun p u hp => cell_on ha12 hp)
            have v0q := fun W (hW : Below w12.heap.size w12 W) => cell_on hW v0
            have v1q := fun W (hW : Below w12.heap.size w12 W) => cell_on hW v1
            have u0q := fun W (hW : Below w12.heap.size w12 W) => cell_on hW u0
            have u1q := fun W (hW : Below w12.heap.size w12 W) => cell_on hW u1
            have c0q := fun W (hW : Below w12.heap.size w12 W) => cell_on hW c0
            have c1q := fun W (hW : Below w12.heap.size w12 W) => cell_on hW c1
            have z0q := fun W (hW : Below w12.heap.size w12 W) => cell_on hW z0
            have z1q := fun W (hW : Below w12.heap.size w12 W) => cell_on hW z1
            have z2q := fun W (hW : Below w12.heap.size w12 W) => cell_on hW z2
            have y0q := fun W (hW : Below w12.heap.size w12 W) => cell_on hW y0
            have y1q := fun W (hW : Below w12.heap.size w12 W) => cell_on hW y1
            have y2q := fun W (hW : Below w12.heap.size w12 W) => cell_on hW y2
            clear v0 v1 u0 u1 c0 c1 z0 z1 z2 y0 y1 y2
            go_upto_region 19 with fail
            refine wp_region_noPanic ?_
            refine wp_region_held_drew (S := (fun W => Below w12.heap.size w12 W)) (by kernel_rfl) ?_ (fun hHeld => ?_)
            · exact (Below.refl _ _).drew
            refine wpAnyH_take (i := 0) (oi := ?oi120) (v := ?v120) ?hi120 (by kernel_rfl) (by kernel_rfl) (by kernel_rfl) ?hQ120 ?hy120 (by assumption) ?hrest120
            case hi120 => (simp only [List.getElem?_toArray, List.getElem?_cons_zero]; try rfl)
            case hQ120 => exact fun _ _ _ h => h
            case hy120 =>
              refine Or.inl ⟨by rfl, ?_⟩
              (intro wq hSw; (try dsimp only at hSw); go_simp; try with_reducible rfl)
            (try simp only [Act.put, List.setIfInBounds_toArray, List.set_cons_zero, List.set_cons_succ])
            refine wpAnyH_take (i := 1) (oi := ?oi121) (v := ?v121) ?hi121 (by kernel_rfl) (by kernel_rfl) (by kernel_rfl) ?hQ121 ?hy121 (by assumption) ?hrest121
            case hi121 => (simp only [List.getElem?_toArray, List.getElem?_cons_succ, List.getElem?_cons_zero]; try rfl)
            case hQ121 => exact fun _ _ _ h => h
            case hy121 =>
              refine Or.inl ⟨by rfl, ?_⟩
              (intro wq hSw; (try dsimp only at hSw); go_simp; try with_reducible rfl)
            (try simp only [Act.put, List.setIfInBounds_toArray, List.set_cons_zero, List.set_cons_succ])
            refine wpAnyH_take (i := 2) (oi := ?oi122) (v := ?v122) ?hi122 (by kernel_rfl) (by kernel_rfl) (by kernel_rfl) ?hQ122 ?hy122 (by assumption) ?hrest122
            case hi122 => (simp only [List.getElem?_toArray, List.getElem?_cons_succ, List.getElem?_cons_zero]; try rfl)
            case hQ122 => exact fun _ _ _ h => h
            case hy122 =>
              refine Or.inl ⟨by rfl, ?_⟩
              (intro wq hSw; (try dsimp only at hSw); go_simp; try with_reducible rfl)
            (try simp only [Act.put, List.setIfInBounds_toArray, List.set_cons_zero, List.set_cons_succ])
            refine wpAnyH_take (i := 3) (oi := ?oi123) (v := ?v123) ?hi123 (by kernel_rfl) (by kernel_rfl) (by kernel_rfl) ?hQ123 ?hy123 (by assumption) ?hrest123
            case hi123 => (simp only [List.getElem?_toArray, List.getElem?_cons_succ, List.getElem?_cons_zero]; try rfl)
            case hQ123 => exact fun _ _ _ h => h
            case hy123 =>
              refine Or.inl ⟨by rfl, ?_⟩
              (intro wq hSw; (try dsimp only at hSw); go_simp; try with_reducible rfl)
            (try simp only [Act.put, List.setIfInBounds_toArray, List.set_cons_zero, List.set_cons_succ])
            refine wpAnyH_ready (rs := [4]) (by kernel_rfl) (by simp) ?_
            refine AllReadyH.cons (o := ?oi124) ?hi124 (fun K hK => ?hstep124) AllReadyH.nil
            case hi124 => (simp only [List.getElem?_toArray, List.getElem?_cons_succ, List.getElem?_cons_zero]; try rfl)
            go_simp
            (refine (KS1.out _ (below_step b12 hHeld)).mono ?_; rintro e wx ⟨rfl, hbx⟩)
            refine hK.out _ _ ?_ (fun hHeld => ?_)
            · exact below_step hHeld hbx
            clear hK K
            (try simp only [Act.put, List.setIfInBounds_toArray, List.set_cons_zero, List.set_cons_succ])
            refine wpAnyH_take (i := 5) (oi := ?oi125) (v := ?v125) ?hi125 (by kernel_rfl) (by kernel_rfl) (by kernel_rfl) ?hQ125 ?hy125 (by assumption) ?hrest125
            case hi125 => (simp only [List.getElem?_toArray, List.getElem?_cons_succ, List.getElem?_cons_zero]; try rfl)
            case hQ125 => exact fun _ _ _ h => h
            case hy125 =>
              refine Or.inl ⟨by rfl, ?_⟩
              (intro wq hSw; (try dsimp only at hSw); go_simp; try with_reducible rfl)
            (try simp only [Act.put, List.setIfInBounds_toArray, List.set_cons_zero, List.set_cons_succ])
            refine wpAnyH_take (i := 6) (oi := ?oi126) (v := ?v126) ?hi126 (by kernel_rfl) (by kernel_rfl) (by kernel_rfl) ?hQ126 ?hy126 (by assumption) ?hrest126
            case hi126 => (simp only [List.getElem?_toArray, List.getElem?_cons_succ, List.getElem?_cons_zero]; try rfl)
            case hQ126 => exact fun _ _ _ h => h
            case hy126 =>
              refine Or.inl ⟨by rfl, ?_⟩
              (intro wq hSw; (try dsimp only at hSw); go_simp; try with_reducible rfl)
            (try simp only [Act.put, List.setIfInBounds_toArray, List.set_cons_zero, List.set_cons_succ])
            refine wpAnyH_take (i := 7) (oi := ?oi127) (v := ?v127) ?hi127 (by kernel_rfl) (by kernel_rfl) (by kernel_rfl) ?hQ127 ?hy127 (by assumption) ?hrest127
            case hi127 => (simp only [List.getElem?_toArray, List.getElem?_cons_succ, List.getElem?_cons_zero]; try rfl)
            case hQ127 => exact fun _ _ _ h => h
            case hy127 =>
              refine Or.inl ⟨by rfl, ?_⟩
              (intro wq hSw; (try dsimp only at hSw); go_simp; try with_reducible rfl)
            (try simp only [Act.put, List.setIfInBounds_toArray, List.set_cons_zero, List.set_cons_succ])
            refine wpAnyH_take (i := 8) (oi := ?oi128) (v := ?v128) ?hi128 (by kernel_rfl) (by kernel_rfl) (by kernel_rfl) ?hQ128 ?hy128 (by assumption) ?hrest128
            case hi128 => (simp only [List.getElem?_toArray, List.getElem?_cons_succ, List.getElem?_cons_zero]; try rfl)
            case hQ128 => exact fun _ _ _ h => h
            case hy128 =>
              refine Or.inl ⟨by rfl, ?_⟩
              (intro wq hSw; (try dsimp only at hSw); go_simp; try with_reducible rfl)
            (try simp only [Act.put, List.setIfInBounds_toArray, List.set_cons_zero, List.set_cons_succ])
            refine wpAnyH_take (i := 9) (oi := ?oi129) (v := ?v129) ?hi129 (by kernel_rfl) (by kernel_rfl) (by kernel_rfl) ?hQ129 ?hy129 (by assumption) ?hrest129
            case hi129 => (simp only [List.getElem?_toArray, List.getElem?_cons_succ, List.getElem?_cons_zero]; try rfl)
            case hQ129 => exact fun _ _ _ h => h
            case hy129 =>
              refine Or.inl ⟨by rfl, ?_⟩
              (intro wq hSw; (try dsimp only at hSw); go_simp; try with_reducible rfl)
            (try simp only [Act.put, List.setIfInBounds_toArray, List.set_cons_zero, List.set_cons_succ])
            refine wpAnyH_ready (rs := [10]) (by kernel_rfl) (by simp) ?_
            refine AllReadyH.cons (o := ?oi130) ?hi130 (fun K hK => ?hstep130) AllReadyH.nil
            case hi130 => (simp only [List.getElem?_toArray, List.getElem?_cons_succ, List.getElem?_cons_zero]; try rfl)
            go_simp
            (refine (KS2.out _ (below_step b12 hHeld)).mono ?_; rintro e wx ⟨rfl, hbx⟩)
            refine hK.out _ _ ?_ (fun hHeld => ?_)
            · exact below_step hHeld hbx
            clear hK K
            (try simp only [Act.put, List.setIfInBounds_toArray, List.set_cons_zero, List.set_cons_succ])
            refine wpAnyH_take (i := 11) (oi := ?oi131) (v := ?v131) ?hi131 (by kernel_rfl) (by kernel_rfl) (by kernel_rfl) ?hQ131 ?hy131 (by assumption) ?hrest131
            case hi131 => (simp only [List.getElem?_toArray, List.getElem?_cons_succ, List.getElem?_cons_zero]; try rfl)
            case hQ131 => exact fun _ _ _ h => h
            case hy131 =>
              refine Or.inl ⟨by rfl, ?_⟩
              (intro wq hSw; (try dsimp only at hSw); go_simp; try with_reducible rfl)
            (try simp only [Act.put, List.setIfInBounds_toArray, List.set_cons_zero, List.set_cons_succ])
            refine wpAnyH_take (i := 12) (oi := ?oi132) (v := ?v132) ?hi132 (by kernel_rfl) (by kernel_rfl) (by kernel_rfl) ?hQ132 ?hy132 (by assumption) ?hrest132
            case hi132 => (simp only [List.getElem?_toArray, List.getElem?_cons_succ, List.getElem?_cons_zero]; try rfl)
            case hQ132 => exact fun _ _ _ h => h
            case hy132 =>
              refine Or.inl ⟨by rfl, ?_⟩
              (intro wq hSw; (try dsimp only at hSw); go_simp; try with_reducible rfl)
            (try simp only [Act.put, List.setIfInBounds_toArray, List.set_cons_zero, List.set_cons_succ])
            refine wpAnyH_take (i := 13) (oi := ?oi133) (v := ?v133) ?hi133 (by kernel_rfl) (by kernel_rfl) (by kernel_rfl) ?hQ133 ?hy133 (by assumption) ?hrest133
            case hi133 => (simp only [List.getElem?_toArray, List.getElem?_cons_succ, List.getElem?_cons_zero]; try rfl)
            case hQ133 => exact fun _ _ _ h => h
            case hy133 =>
              refine Or.inl ⟨by rfl, ?_⟩
              (intro wq hSw; (try dsimp only at hSw); go_simp; try with_reducible rfl)
            (try simp only [Act.put, List.setIfInBounds_toArray, List.set_cons_zero, List.set_cons_succ])
            refine wpAnyH_take (i := 14) (oi := ?oi134) (v := ?v134) ?hi134 (by kernel_rfl) (by kernel_rfl) (by kernel_rfl) ?hQ134 ?hy134 (by assumption) ?hrest134
            case hi134 => (simp only [List.getElem?_toArray, List.getElem?_cons_succ, List.getElem?_cons_zero]; try rfl)
            case hQ134 => exact fun _ _ _ h => h
            case hy134 =>
              refine Or.inl ⟨by rfl, ?_⟩
              (intro wq hSw; (try dsimp only at hSw); go_simp; try with_reducible rfl)
            (try simp only [Act.put, List.setIfInBounds_toArray, List.set_cons_zero, List.set_cons_succ])
            refine wpAnyH_take (i := 15) (oi := ?oi135) (v := ?v135) ?hi135 (by kernel_rfl) (by kernel_rfl) (by kernel_rfl) ?hQ135 ?hy135 (by assumption) ?hrest135
            case hi135 => (simp only [List.getElem?_toArray, List.getElem?_cons_succ, List.getElem?_cons_zero]; try rfl)
            case hQ135 => exact fun _ _ _ h => h
            case hy135 =>
              refine Or.inl ⟨by rfl, ?_⟩
              (intro wq hSw; (try dsimp only at hSw); go_simp; try with_reducible rfl)
            (try simp only [Act.put, List.setIfInBounds_toArray, List.set_cons_zero, List.set_cons_succ])
            refine wpAnyH_take (i := 16) (oi := ?oi136) (v := ?v136) ?hi136 (by kernel_rfl) (by kernel_rfl) (by kernel_rfl) ?hQ136 ?hy136 (by assumption) ?hrest136
            case hi136 => (simp only [List.getElem?_toArray, List.getElem?_cons_succ, List.getElem?_cons_zero]; try rfl)
            case hQ136 => exact fun _ _ _ h => h
            case hy136 =>
              refine Or.inl ⟨by rfl, ?_⟩
              (intro wq hSw; (try dsimp only at hSw); go_simp; try with_reducible rfl)
            (try simp only [Act.put, List.setIfInBounds_toArray, List.set_cons_zero, List.set_cons_succ])
            refine wpAnyH_take (i := 17) (oi := ?oi137) (v := ?v137) ?hi137 (by kernel_rfl) (by kernel_rfl) (by kernel_rfl) ?hQ137 ?hy137 (by assumption) ?hrest137
            case hi137 => (simp only [List.getElem?_toArray, List.getElem?_cons_succ, List.getElem?_cons_zero]; try rfl)
            case hQ137 => exact fun _ _ _ h => h
            case hy137 =>
              refine Or.inl ⟨by rfl, ?_⟩
              (intro wq hSw; (try dsimp only at hSw); go_simp; try with_reducible rfl)
            (try simp only [Act.put, List.setIfInBounds_toArray, List.set_cons_zero, List.set_cons_succ])
            refine wpAnyH_take (i := 18) (oi := ?oi138) (v := ?v138) ?hi138 (by kernel_rfl) (by kernel_rfl) (by kernel_rfl) ?hQ138 ?hy138 (by assumption) ?hrest138
            case hi138 => (simp only [List.getElem?_toArray, List.getElem?_cons_succ, List.getElem?_cons_zero]; try rfl)
            case hQ138 => exact fun _ _ _ h => h
            case hy138 =>
              refine Or.inl ⟨by rfl, ?_⟩
              (intro wq hSw; (try dsimp only at hSw); go_simp; try with_reducible rfl)
            (try simp only [Act.put, List.setIfInBounds_toArray, List.set_cons_zero, List.set_cons_succ])
            refine wpAnyH_take (i := 19) (oi := ?oi139) (v := ?v139) ?hi139 (by kernel_rfl) (by kernel_rfl) (by kernel_rfl) ?hQ139 ?hy139 (by assumption) ?hrest139
            case hi139 => (simp only [List.getElem?_toArray, List.getElem?_cons_succ, List.getElem?_cons_zero]; try rfl)
            case hQ139 => exact fun _ _ _ h => h
            case hy139 =>
              refine Or.inl ⟨by rfl, ?_⟩
              (intro wq hSw; (try dsimp only at hSw); go_simp; try with_reducible rfl)
            (try simp only [Act.put, List.setIfInBounds_toArray, List.set_cons_zero, List.set_cons_succ])
            refine wpAnyH_take (i := 21) (oi := ?oi140) (v := ?v140) ?hi140 (by kernel_rfl) (by kernel_rfl) (by kernel_rfl) ?hQ140 ?hy140 (by assumption) ?hrest140
            case hi140 => (simp only [List.getElem?_toArray, List.getElem?_cons_succ, List.getElem?_cons_zero]; try rfl)
            case hQ140 => exact fun _ _ _ h => h
            case hy140 =>
              refine Or.inl ⟨by rfl, ?_⟩
              (intro wq hSw; (try dsimp only at hSw); go_simp; try with_reducible rfl)
            (try simp only [Act.put, List.setIfInBounds_toArray, List.set_cons_zero, List.set_cons_succ])
            refine wpAnyH_ready (rs := [20]) (by kernel_rfl) (by simp) ?_
            refine AllReadyH.cons (o := ?oi141) ?hi141 (fun K hK => ?hstep141) AllReadyH.nil
            case hi141 => (simp only [List.getElem?_toArray, List.getElem?_cons_succ, List.getElem?_cons_zero]; try rfl)
            go_simp
            (refine (KE1.out _ (below_step b12 hHeld)).mono ?_; rintro e wx ⟨rfl, hbx⟩)
            refine hK.out _ _ ?_ (fun hHeld => ?_)
            · exact below_step hHeld hbx
            clear hK K
            (try simp only [Act.put, List.setIfInBounds_toArray, List.set_cons_zero, List.set_cons_succ])
            refine wpAnyH_ready (rs := [22]) (by kernel_rfl) (by simp) ?_
            refine AllReadyH.cons (o := ?oi142) ?hi142 (fun K hK => ?hstep142) AllReadyH.nil
            case hi142 => (simp only [List.getElem?_toArray, List.getElem?_cons_succ, List.getElem?_cons_zero]; try rfl)
            go_simp
            (refine (KE2.out _ (below_step bw12 hHeld)).mono ?_; rintro e wx ⟨rfl, hbx⟩)
            refine hK.out _ _ ?_ (fun hHeld => ?_)
            · exact below_step hHeld hbx
            clear hK K
            (try simp only [Act.put, List.setIfInBounds_toArray, List.set_cons_zero, List.set_cons_succ])
            refine wpAnyH_take (i := 23) (oi := ?oi143) (v := ?v143) ?hi143 (by kernel_rfl) (by kernel_rfl) (by kernel_rfl) ?hQ143 ?hy143 (by assumption) ?hrest143
            case hi143 => (simp only [List.getElem?_toArray, List.getElem?_cons_succ, List.getElem?_cons_zero]; try rfl)
            case hQ143 => exact fun _ _ _ h => h
            case hy143 =>
              refine Or.inl ⟨by rfl, ?_⟩
              (intro wq hSw; (try dsimp only at hSw); go_simp; try with_reducible rfl)
            (try simp only [Act.put, List.setIfInBounds_toArray, List.set_cons_zero, List.set_cons_succ])
            refine wpAnyH_take (i := 24) (oi := ?oi144) (v := ?v144) ?hi144 (by kernel_rfl) (by kernel_rfl) (by kernel_rfl) ?hQ144 ?hy144 (by assumption) ?hrest144
            case hi144 => (simp only [List.getElem?_toArray, List.getElem?_cons_succ, List.getElem?_cons_zero]; try rfl)
            case hQ144 => exact fun _ _ _ h => h
            case hy144 =>
              refine Or.inl ⟨by rfl, ?_⟩
              (intro wq hSw; (try dsimp only at hSw); go_simp; try with_reducible rfl)
            (try simp only [Act.put, List.setIfInBounds_toArray, List.set_cons_zero, List.set_cons_succ])
            refine wpAnyH_take (i := 25) (oi := ?oi145) (v := ?v145) ?hi145 (by kernel_rfl) (by kernel_rfl) (by kernel_rfl) ?hQ145 ?hy145 (by assumption) ?hrest145
            case hi145 => (simp only [List.getElem?_toArray, List.getElem?_cons_succ, List.getElem?_cons_zero]; try rfl)
            case hQ145 => exact fun _ _ _ h => h
            case hy145 =>
              refine Or.inl ⟨by rfl, ?_⟩
              (intro wq hSw; (try dsimp only at hSw); go_simp; try with_reducible rfl)
            (try simp only [Act.put, List.setIfInBounds_toArray, List.set_cons_zero, List.set_cons_succ])
            refine wpAnyH_take (i := 26) (oi := ?oi146) (v := ?v146) ?hi146 (by kernel_rfl) (by kernel_rfl) (by kernel_rfl) ?hQ146 ?hy146 (by assumption) ?hrest146
            case hi146 => (simp only [List.getElem?_toArray, List.getElem?_cons_succ, List.getElem?_cons_zero]; try rfl)
            case hQ146 => exact fun _ _ _ h => h
            case hy146 =>
              refine Or.inl ⟨by rfl, ?_⟩
              (intro wq hSw; (try dsimp only at hSw); go_simp; try with_reducible rfl)
            (try simp only [Act.put, List.setIfInBounds_toArray, List.set_cons_zero, List.set_cons_succ])
            refine wpAnyH_take (i := 27) (oi := ?oi147) (v := ?v147) ?hi147 (by kernel_rfl) (by kernel_rfl) (by kernel_rfl) ?hQ147 ?hy147 (by assumption) ?hrest147
            case hi147 => (simp only [List.getElem?_toArray, List.getElem?_cons_succ, List.getElem?_cons_zero]; try rfl)
            case hQ147 => exact fun _ _ _ h => h
            case hy147 =>
              refine Or.inl ⟨by rfl, ?_⟩
              (intro wq hSw; (try dsimp only at hSw); go_simp; try with_reducible rfl)
            (try simp only [Act.put, List.setIfInBounds_toArray, List.set_cons_zero, List.set_cons_succ])
            refine wpAnyH_take (i := 28) (oi := ?oi148) (v := ?v148) ?hi148 (by kernel_rfl) (by kernel_rfl) (by kernel_rfl) ?hQ148 ?hy148 (by assumption) ?hrest148
            case hi148 => (simp only [List.getElem?_toArray, List.getElem?_cons_succ, List.getElem?_cons_zero]; try rfl)
            case hQ148 => exact fun _ _ _ h => h
            case hy148 =>
              refine Or.inl ⟨by rfl, ?_⟩
              (intro wq hSw; (try dsimp only at hSw); go_simp; try with_reducible rfl)
            (try simp only [Act.put, List.setIfInBounds_toArray, List.set_cons_zero, List.set_cons_succ])
            refine wpAnyH_take (i := 29) (oi := ?oi149) (v := ?v149) ?hi149 (by kernel_rfl) (by kernel_rfl) (by kernel_rfl) ?hQ149 ?hy149 (by assumption) ?hrest149
            case hi149 => (simp only [List.getElem?_toArray, List.getElem?_cons_succ, List.getElem?_cons_zero]; try rfl)
            case hQ149 => exact fun _ _ _ h => h
            case hy149 =>
              refine Or.inl ⟨by rfl, ?_⟩
              (intro wq hSw; (try dsimp only at hSw); go_simp; try with_reducible rfl)
            (try simp only [Act.put, List.setIfInBounds_toArray, List.set_cons_zero, List.set_cons_succ])
            refine wpAnyH_take (i := 30) (oi := ?oi150) (v := ?v150) ?hi150 (by kernel_rfl) (by kernel_rfl) (by kernel_rfl) ?hQ150 ?hy150 (by assumption) ?hrest150
            case hi150 => (simp only [List.getElem?_toArray, List.getElem?_cons_succ, List.getElem?_cons_zero]; try rfl)
            case hQ150 => exact fun _ _ _ h => h
            case hy150 =>
              refine Or.inl ⟨by rfl, ?_⟩
              (intro wq hSw; (try dsimp only at hSw); go_simp; try with_reducible rfl)
            (try simp only [Act.put, List.setIfInBounds_toArray, List.set_cons_zero, List.set_cons_succ])
            refine wpAnyH_take (i := 31) (oi := ?oi151) (v := ?v151) ?hi151 (by kernel_rfl) (by kernel_rfl) (by kernel_rfl) ?hQ151 ?hy151 (by assumption) ?hrest151
            case hi151 => (simp only [List.getElem?_toArray, List.getElem?_cons_succ, List.getElem?_cons_zero]; try rfl)
            case hQ151 => exact fun _ _ _ h => h
            case hy151 =>
              refine Or.inl ⟨by rfl, ?_⟩
              (intro wq hSw; (try dsimp only at hSw); go_simp; try with_reducible rfl)
            (try simp only [Act.put, List.setIfInBounds_toArray, List.set_cons_zero, List.set_cons_succ])
            refine wpAnyH_take (i := 32) (oi := ?oi152) (v := ?v152) ?hi152 (by kernel_rfl) (by kernel_rfl) (by kernel_rfl) ?hQ152 ?hy152 (by assumption) ?hrest152
            case hi152 => (simp only [List.getElem?_toArray, List.getElem?_cons_succ, List.getElem?_cons_zero]; try rfl)
            case hQ152 => exact fun _ _ _ h => h
            case hy152 =>
              refine Or.inl ⟨by rfl, ?_⟩
              (intro wq hSw; (try dsimp only at hSw); go_simp; try with_reducible rfl)
            (try simp only [Act.put, List.setIfInBounds_toArray, List.set_cons_zero, List.set_cons_succ])
            refine wpAnyH_take (i := 33) (oi := ?oi153) (v := ?v153) ?hi153 (by kernel_rfl) (by kernel_rfl) (by kernel_rfl) ?hQ153 ?hy153 (by assumption) ?hrest153
            case hi153 => (simp only [List.getElem?_toArray, List.getElem?_cons_succ, List.getElem?_cons_zero]; try rfl)
            case hQ153 => exact fun _ _ _ h => h
            case hy153 =>
              refine Or.inl ⟨by rfl, ?_⟩
              (intro wq hSw; (try dsimp only at hSw); go_simp; try with_reducible rfl)
            (try simp only [Act.put, List.setIfInBounds_toArray, List.set_cons_zero, List.set_cons_succ])
            refine wpAnyH_take (i := 34) (oi := ?oi154) (v := ?v154) ?hi154 (by kernel_rfl) (by kernel_rfl) (by kernel_rfl) ?hQ154 ?hy154 (by assumption) ?hrest154
            case hi154 => (simp only [List.getElem?_toArray, List.getElem?_cons_succ, List.getElem?_cons_zero]; try rfl)
            case hQ154 => exact fun _ _ _ h => h
            case hy154 =>
              refine Or.inl ⟨by rfl, ?_⟩
              (intro wq hSw; (try dsimp only at hSw); go_simp; try with_reducible rfl)
            (try simp only [Act.put, List.setIfInBounds_toArray, List.set_cons_zero, List.set_cons_succ])
            refine wpAnyH_take (i := 35) (oi := ?oi155) (v := ?v155) ?hi155 (by kernel_rfl) (by kernel_rfl) (by kernel_rfl) ?hQ155 ?hy155 (by assumption) ?hrest155
            case hi155 => (simp only [List.getElem?_toArray, List.getElem?_cons_succ, List.getElem?_cons_zero]; try rfl)
            case hQ155 => exact fun _ _ _ h => h
            case hy155 =>
              refine Or.inl ⟨by rfl, ?_⟩
              (intro wq hSw; (try dsimp only at hSw); go_simp; try with_reducible rfl)
            (try simp only [Act.put, List.setIfInBounds_toArray, List.set_cons_zero, List.set_cons_succ])
            refine wpAnyH_take (i := 36) (oi := ?oi156) (v := ?v156) ?hi156 (by kernel_rfl) (by kernel_rfl) (by kernel_rfl) ?hQ156 ?hy156 (by assumption) ?hrest156
            case hi156 => (simp only [List.getElem?_toArray, List.getElem?_cons_succ, List.getElem?_cons_zero]; try rfl)
            case hQ156 => exact fun _ _ _ h => h
            case hy156 =>
              refine Or.inl ⟨by rfl, ?_⟩
              (intro wq hSw; (try dsimp only at hSw); go_simp; try with_reducible rfl)
            (try simp only [Act.put, List.setIfInBounds_toArray, List.set_cons_zero, List.set_cons_succ])
            refine wpAnyH_take (i := 37) (oi := ?oi157) (v := ?v157) ?hi157 (by kernel_rfl) (by kernel_rfl) (by kernel_rfl) ?hQ157 ?hy157 (by assumption) ?hrest157
            case hi157 => (simp only [List.getElem?_toArray, List.getElem?_cons_succ, List.getElem?_cons_zero]; try rfl)
            case hQ157 => exact fun _ _ _ h => h
            case hy157 =>
              refine Or.inl ⟨by rfl, ?_⟩
              (intro wq hSw; (try dsimp only at hSw); go_simp; try with_reducible rfl)
            (try simp only [Act.put, List.setIfInBounds_toArray, List.set_cons_zero, List.set_cons_succ])
            refine wpAnyH_take (i := 38) (oi := ?oi158) (v := ?v158) ?hi158 (by kernel_rfl) (by kernel_rfl) (by kernel_rfl) ?hQ158 ?hy158 (by assumption) ?hrest158
            case hi158 => (simp only [List.getElem?_toArray, List.getElem?_cons_succ, List.getElem?_cons_zero]; try rfl)
            case hQ158 => exact fun _ _ _ h => h
            case hy158 =>
              refine Or.inl ⟨by rfl, ?_⟩
              (intro wq hSw; (try dsimp only at hSw); go_simp; try with_reducible rfl)
            (try simp only [Act.put, List.setIfInBounds_toArray, List.set_cons_zero, List.set_cons_succ])
            refine wpAnyH_take (i := 39) (oi := ?oi159) (v := undef) ?hi159 (by kernel_rfl) (by kernel_rfl) (by kernel_rfl) ?hQ159 ?hy159 (by assumption) ?hrest159
            case hi159 => (simp only [List.getElem?_toArray, List.getElem?_cons_succ, List.getElem?_cons_zero]; try rfl)
            case hQ159 => exact fun _ _ _ h => h
            case hy159 => exact Or.inr ⟨by rfl, rfl⟩
            (try simp only [Act.put, List.setIfInBounds_toArray, List.set_cons_zero, List.set_cons_succ])
            refine wpAnyH_take (i := 40) (oi := ?oi160) (v := undef) ?hi160 (by kernel_rfl) (by kernel_rfl) (by kernel_rfl) ?hQ160 ?hy160 (by assumption) ?hrest160
            case hi160 => (simp only [List.getElem?_toArray, List.getElem?_cons_succ, List.getElem?_cons_zero]; try rfl)
            case hQ160 => exact fun _ _ _ h => h
            case hy160 => exact Or.inr ⟨by rfl, rfl⟩
            (try simp only [Act.put, List.setIfInBounds_toArray, List.set_cons_zero, List.set_cons_succ])
            refine wpAnyH_take (i := 41) (oi := ?oi161) (v := undef) ?hi161 (by kernel_rfl) (by kernel_rfl) (by kernel_rfl) ?hQ161 ?hy161 (by assumption) ?hrest161
            case hi161 => (simp only [List.getElem?_toArray, List.getElem?_cons_succ, List.getElem?_cons_zero]; try rfl)
            case hQ161 => exact fun _ _ _ h => h
            case hy161 => exact Or.inr ⟨by rfl, rfl⟩
            (try simp only [Act.put, List.setIfInBounds_toArray, List.set_cons_zero, List.set_cons_succ])
            refine wpAnyH_take (i := 42) (oi := ?oi162) (v := undef) ?hi162 (by kernel_rfl) (by kernel_rfl) (by kernel_rfl) ?hQ162 ?hy162 (by assumption) ?hrest162
            case hi162 => (simp only [List.getElem?_toArray, List.getElem?_cons_succ, List.getElem?_cons_zero]; try rfl)
            case hQ162 => exact fun _ _ _ h => h
            case hy162 => exact Or.inr ⟨by rfl, rfl⟩
            (try simp only [Act.put, List.setIfInBounds_toArray, List.set_cons_zero, List.set_cons_succ])
            refine wpAnyH_take (i := 43) (oi := ?oi163) (v := undef) ?hi163 (by kernel_rfl) (by kernel_rfl) (by kernel_rfl) ?hQ163 ?hy163 (by assumption) ?hrest163
            case hi163 => (simp only [List.getElem?_toArray, List.getElem?_cons_succ, List.getElem?_cons_zero]; try rfl)
            case hQ163 => exact fun _ _ _ h => h
            case hy163 => exact Or.inr ⟨by rfl, rfl⟩
            (try simp only [Act.put, List.setIfInBounds_toArray, List.set_cons_zero, List.set_cons_succ])
            refine wpAnyH_take (i := 44) (oi := ?oi164) (v := ?v164) ?hi164 (by kernel_rfl) (by kernel_rfl) (by kernel_rfl) ?hQ164 ?hy164 (by assumption) ?hrest164
            case hi164 => (simp only [List.getElem?_toArray, List.getElem?_cons_succ, List.getElem?_cons_zero]; try rfl)
            case hQ164 => exact fun _ _ _ h => h
            case hy164 =>
              refine Or.inl ⟨by rfl, ?_⟩
              (intro wq hSw; (try dsimp only at hSw); go_simp; try with_reducible rfl)
            (try simp only [Act.put, List.setIfInBounds_toArray, List.set_cons_zero, List.set_cons_succ])
            refine wpAnyH_take (i := 45) (oi := ?oi165) (v := ?v165) ?hi165 (by kernel_rfl) (by kernel_rfl) (by kernel_rfl) ?hQ165 ?hy165 (by assumption) ?hrest165
            case hi165 => (simp only [List.getElem?_toArray, List.getElem?_cons_succ, List.getElem?_cons_zero]; try rfl)
            case hQ165 => exact fun _ _ _ h => h
            case hy165 =>
              refine Or.inl ⟨by rfl, ?_⟩
              (intro wq hSw; (try dsimp only at hSw); go_simp; try with_reducible rfl)
            (try simp only [Act.put, List.setIfInBounds_toArray, List.set_cons_zero, List.set_cons_succ])
            refine wpAnyH_take (i := 46) (oi := ?oi166) (v := ?v166) ?hi166 (by kernel_rfl) (by kernel_rfl) (by kernel_rfl) ?hQ166 ?hy166 (by assumption) ?hrest166
            case hi166 => (simp only [List.getElem?_toArray, List.getElem?_cons_succ, List.getElem?_cons_zero]; try rfl)
            case hQ166 => exact fun _ _ _ h => h
            case hy166 =>
              refine Or.inl ⟨by rfl, ?_⟩
              (intro wq hSw; (try dsimp only at hSw); go_simp; try with_reducible rfl)
            (try simp only [Act.put, List.setIfInBounds_toArray, List.set_cons_zero, List.set_cons_succ])
            refine wpAnyH_done (by kernel_rfl) ?_ _
            refine NoPanic.normal ?_
            (go_wp2_with fail; go_ret; exact ⟨rfl, below_step bw12 hHeld⟩)
  · have g1 : (1000 : Int) < xs.length := by omega
    clear hlen kt kf kc hg
    go_enter Try.func6, Try.ntmps6
    go_wp2_with fail
    refine (head_any w1).mono ?_
    rintro e w2 ⟨rfl, hb2⟩
    obtain ⟨u0, u1, _⟩ := U.out.on hb2
    have b2 := below_step b1 hb2
    go_wp2_with fail
    refine great_any.mono ?_
    rintro e w3 ⟨rfl, hb3⟩
    go_wp2_with fail
    go_ret
    exact ⟨rfl, below_step b2 hb3⟩
end Go.Proofs.Ytbfjhclibbonjaa
