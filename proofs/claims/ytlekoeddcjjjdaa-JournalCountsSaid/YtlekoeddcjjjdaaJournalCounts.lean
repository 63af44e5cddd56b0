/-
  The walk of the law JournalCounts.
-/
import Derived.Test.YtlekoeddcjjjdaaJourF
namespace Go.Proofs.Ytlekoeddcjjjdaa
open Go.RowKit Go.Cov Go.Lib
set_option maxRecDepth 100000 in
set_option maxHeartbeats 6400000 in
theorem counts_law {A B : Option Addr} {c d : Nat} {xs : List Pr} {L : PL} {os : List Ow} {w : World} (h : St w A c xs L) (hz : xs.length ≤ 2932031007403) (g : Els owEl w B os) (u : Int) (hu : 0 ≤ u ∧ u < 256) :
    Calls Try.prog 6 #[.slice A xs.length c, .slice B os.length d, .int .u8 u] w fun e w' => e = .returned (.bool true) ∧ Below w.heap.size w w' := by
  go_enter Try.func6, Try.ntmps6
  go_wp2_with fail
  refine (jhead_any w).mono ?_
  rintro e w1 ⟨rfl, hb1⟩
  by_cases hr : rightP L = true
  · go_wp2_with fail
    refine (jnew_ok (h.below hb1) hz hr).mono ?_
    rintro e w2 ⟨jb, rfl, hj2, hb2⟩
    have hw : w.heap.size ≤ w1.heap.size := hb1.size
    have b2 := below_step hb1 hb2
    by_cases hg : 300 < os.length
    · go_wp2_with fail
      refine (jgreat_any w2).mono ?_
      rintro e w3 ⟨rfl, rfl⟩
      rw [decide_eq_true hg]
      go_wp2_with fail
      go_ret
      exact ⟨rfl, b2⟩
    · go_wp2_with fail
      refine (jgreat_any w2).mono ?_
      rintro e w3 ⟨rfl, rfl⟩
      rw [decide_eq_false hg]
      go_wp2_with fail
      go_loopw [9, 10] (fun n i W => ∃ (k : Nat) (hist : List PL) (cur : PL), k ≤ os.length ∧ i = .int .i64 k ∧ n = .int .i64 (hist.length : Nat) ∧ hist.length ≤ k ∧ Okay cur ∧ Jn W w1.heap.size jb hist cur ∧ Below w.heap.size w W) (fun n i _ => os.length - (RowKit.intOf i).toNat)
      case atStart => exact ⟨0, [], L, by omega, rfl, rfl, by simp, okay_iff.1 hr, hj2, b2⟩
      case round =>
        obtain ⟨k, hist, cur, hk, rfl, rfl, hn, hok, hj, hb⟩ := hrel
        have hbw : w1.heap.size ≤ wr.heap.size := jn_size hj
        by_cases hlt : k < os.length
        · obtain ⟨ad, rfl, h1, h2, h3, h4, h5, h6⟩ := ow_at g k hlt
          generalize os[k] = x at h1 h2 h3 h4 h5 h6
          have h1r := cell_on hb h1
          have h2r := cell_on hb h2
          have i1 : (k : Int) < os.length := by omega
          have h2q := fun W (hW : Below w1.heap.size wr W) => cell_on (hb.trans (hW.mono hw)) h2
          have h3q := fun W (hW : Below w1.heap.size wr W) => cell_on (hb.trans (hW.mono hw)) h3
          have hdr := (Below.refl wr.heap.size wr).drew
          have KP := jputt_any (d := x.kc) (f := x.vc) (hj.below hdr) hok (by omega) ((h5.below hb).below hdr) ((h6.below hb).below hdr)
          have KD := hid (jdel_any (d := x.kc) hj hok (by omega) (h5.below hb))
          have hkd := okay_del (m := x.k) hok
          have hpc := jput_cases (hist := hist) (m := x.k) (v := x.v) hok
          have n0 : (hist.length : Int) ≤ 300 := by omega
          have HN := hid (show ((hist ++ [cur]).length : Int) = (hist.length : Int) + 1 by simp)
          have HN2 := hid (show (hist ++ [cur]).length = hist.length + 1 by simp)
          generalize delP cur x.k = D at KD hkd
          obtain ⟨z, hz⟩ : ∃ z, bits .and .i64 x.what 1 = z := ⟨_, rfl⟩
          by_cases ez : z = 0
          · subst ez
            clear KD
            generalize (putR cur x.k x.v).2 = er at KP hpc
            generalize jput hist cur x.k x.v = J at KP hpc
            rcases hpc with ⟨ee, ej, ok2⟩ | ⟨ee, ej⟩
            · subst ee
              obtain ⟨hist2, cur2⟩ := J
              dsimp only at ej ok2 KP
              subst ej
              have HP := hid KP
              clear KP
              go_upto_region 10 with fail
              refine wp_region_noPanic ?_
              refine wp_region_held_drew (S := (fun W => Below w1.heap.size wr W)) (by kernel_rfl) ?_ (fun hHeld => ?_)
              · exact (Below.refl _ _).drew
              refine wpAnyH_take (i := 0) (oi := ?oi1) (v := ?v1) ?hi1 (by kernel_rfl) (by kernel_rfl) (by kernel_rfl) ?hQ1 ?hy1 (by assumption) ?hrest1
              case hi1 => (simp only [List.getElem?_toArray, List.getElem?_cons_zero]; try rfl)
              case hQ1 => exact fun _ _ _ h => h
              case hy1 =>
                refine Or.inl ⟨by rfl, ?_⟩
                (intro wq hSw; (try dsimp only at hSw); go_simp; try with_reducible rfl)
              (try simp only [Act.put, List.setIfInBounds_toArray, List.set_cons_zero, List.set_cons_succ])
              refine wpAnyH_take (i := 1) (oi := ?oi2) (v := ?v2) ?hi2 (by kernel_rfl) (by kernel_rfl) (by kernel_rfl) ?hQ2 ?hy2 (by assumption) ?hrest2
              case hi2 => (simp only [List.getElem?_toArray, List.getElem?_cons_succ, List.getElem?_cons_zero]; try rfl)
              case hQ2 => exact fun _ _ _ h => h
              case hy2 =>
                refine Or.inl ⟨by rfl, ?_⟩
                (intro wq hSw; (try dsimp only at hSw); go_simp; try with_reducible rfl)
              (try simp only [Act.put, List.setIfInBounds_toArray, List.set_cons_zero, List.set_cons_succ])
              refine wpAnyH_take (i := 2) (oi := ?oi3) (v := ?v3) ?hi3 (by kernel_rfl) (by kernel_rfl) (by kernel_rfl) ?hQ3 ?hy3 (by assumption) ?hrest3
              case hi3 => (simp only [List.getElem?_toArray, List.getElem?_cons_succ, List.getElem?_cons_zero]; try rfl)
              case hQ3 => exact fun _ _ _ h => h
              case hy3 =>
                refine Or.inl ⟨by rfl, ?_⟩
                (intro wq hSw; (try dsimp only at hSw); go_simp; try with_reducible rfl)
              (try simp only [Act.put, List.setIfInBounds_toArray, List.set_cons_zero, List.set_cons_succ])
              refine wpAnyH_take (i := 3) (oi := ?oi4) (v := ?v4) ?hi4 (by kernel_rfl) (by kernel_rfl) (by kernel_rfl) ?hQ4 ?hy4 (by assumption) ?hrest4
              case hi4 => (simp only [List.getElem?_toArray, List.getElem?_cons_succ, List.getElem?_cons_zero]; try rfl)
              case hQ4 => exact fun _ _ _ h => h
              case hy4 =>
                refine Or.inl ⟨by rfl, ?_⟩
                (intro wq hSw; (try dsimp only at hSw); go_simp; try with_reducible rfl)
              (try simp only [Act.put, List.setIfInBounds_toArray, List.set_cons_zero, List.set_cons_succ])
              refine wpAnyH_take (i := 4) (oi := ?oi5) (v := ?v5) ?hi5 (by kernel_rfl) (by kernel_rfl) (by kernel_rfl) ?hQ5 ?hy5 (by assumption) ?hrest5
              case hi5 => (simp only [List.getElem?_toArray, List.getElem?_cons_succ, List.getElem?_cons_zero]; try rfl)
              case hQ5 => exact fun _ _ _ h => h
              case hy5 =>
                refine Or.inl ⟨by rfl, ?_⟩
                (intro wq hSw; (try dsimp only at hSw); go_simp; try with_reducible rfl)
              (try simp only [Act.put, List.setIfInBounds_toArray, List.set_cons_zero, List.set_cons_succ])
              refine wpAnyH_take (i := 5) (oi := ?oi6) (v := ?v6) ?hi6 (by kernel_rfl) (by kernel_rfl) (by kernel_rfl) ?hQ6 ?hy6 (by assumption) ?hrest6
              case hi6 => (simp only [List.getElem?_toArray, List.getElem?_cons_succ, List.getElem?_cons_zero]; try rfl)
              case hQ6 => exact fun _ _ _ h => h
              case hy6 =>
                refine Or.inl ⟨by rfl, ?_⟩
                (intro wq hSw; (try dsimp only at hSw); go_simp; try with_reducible rfl)
              (try simp only [Act.put, List.setIfInBounds_toArray, List.set_cons_zero, List.set_cons_succ])
              refine wpAnyH_take (i := 6) (oi := ?oi7) (v := ?v7) ?hi7 (by kernel_rfl) (by kernel_rfl) (by kernel_rfl) ?hQ7 ?hy7 (by assumption) ?hrest7
              case hi7 => (simp only [List.getElem?_toArray, List.getElem?_cons_succ, List.getElem?_cons_zero]; try rfl)
              case hQ7 => exact fun _ _ _ h => h
              case hy7 =>
                refine Or.inl ⟨by rfl, ?_⟩
                (intro wq hSw; (try dsimp only at hSw); go_simp; try with_reducible rfl)
              (try simp only [Act.put, List.setIfInBounds_toArray, List.set_cons_zero, List.set_cons_succ])
              refine wpAnyH_take (i := 7) (oi := ?oi8) (v := ?v8) ?hi8 (by kernel_rfl) (by kernel_rfl) (by kernel_rfl) ?hQ8 ?hy8 (by assumption) ?hrest8
              case hi8 => (simp only [List.getElem?_toArray, List.getElem?_cons_succ, List.getElem?_cons_zero]; try rfl)
              case hQ8 => exact fun _ _ _ h => h
              case hy8 =>
                refine Or.inl ⟨by rfl, ?_⟩
                (intro wq hSw; (try dsimp only at hSw); go_simp; try with_reducible rfl)
              (try simp only [Act.put, List.setIfInBounds_toArray, List.set_cons_zero, List.set_cons_succ])
              refine wpAnyH_take (i := 8) (oi := ?oi9) (v := ?v9) ?hi9 (by kernel_rfl) (by kernel_rfl) (by kernel_rfl) ?hQ9 ?hy9 (by assumption) ?hrest9
              case hi9 => (simp only [List.getElem?_toArray, List.getElem?_cons_succ, List.getElem?_cons_zero]; try rfl)
              case hQ9 => exact fun _ _ _ h => h
              case hy9 =>
                refine Or.inl ⟨by rfl, ?_⟩
                (intro wq hSw; (try dsimp only at hSw); go_simp; try with_reducible rfl)
              (try simp only [Act.put, List.setIfInBounds_toArray, List.set_cons_zero, List.set_cons_succ])
              refine wpAnyH_take (i := 9) (oi := ?oi10) (v := ?v10) ?hi10 (by kernel_rfl) (by kernel_rfl) (by kernel_rfl) ?hQ10 ?hy10 (by assumption) ?hrest10
              case hi10 => (simp only [List.getElem?_toArray, List.getElem?_cons_succ, List.getElem?_cons_zero]; try rfl)
              case hQ10 => exact fun _ _ _ h => h
              case hy10 =>
                refine Or.inl ⟨by rfl, ?_⟩
                (intro wq hSw; (try dsimp only at hSw); go_simp; try with_reducible rfl)
              (try simp only [Act.put, List.setIfInBounds_toArray, List.set_cons_zero, List.set_cons_succ])
              refine wpAnyH_take (i := 10) (oi := ?oi11) (v := ?v11) ?hi11 (by kernel_rfl) (by kernel_rfl) (by kernel_rfl) ?hQ11 ?hy11 (by assumption) ?hrest11
              case hi11 => (simp only [List.getElem?_toArray, List.getElem?_cons_succ, List.getElem?_cons_zero]; try rfl)
              case hQ11 => exact fun _ _ _ h => h
              case hy11 =>
                refine Or.inl ⟨by rfl, ?_⟩
                (intro wq hSw; (try dsimp only at hSw); go_simp; try with_reducible rfl)
              (try simp only [Act.put, List.setIfInBounds_toArray, List.set_cons_zero, List.set_cons_succ])
              refine wpAnyH_ready (rs := [11]) (by kernel_rfl) (by simp) ?_
              refine AllReadyH.cons (o := ?oi12) ?hi12 (fun K hK => ?hstep12) AllReadyH.nil
              case hi12 => (simp only [List.getElem?_toArray, List.getElem?_cons_succ, List.getElem?_cons_zero]; try rfl)
              go_simp
              (refine HP.out.mono ?_; rintro e wx ⟨rfl, hjx, hbx⟩)
              refine hK.out _ _ ?_ (fun hHeld => ?_)
              · exact hHeld.trans hbx
              clear hK K
              (try simp only [Act.put, List.setIfInBounds_toArray, List.set_cons_zero, List.set_cons_succ])
              refine wpAnyH_take (i := 12) (oi := ?oi13) (v := ?v13) ?hi13 (by kernel_rfl) (by kernel_rfl) (by kernel_rfl) ?hQ13 ?hy13 (by assumption) ?hrest13
              case hi13 => (simp only [List.getElem?_toArray, List.getElem?_cons_succ, List.getElem?_cons_zero]; try rfl)
              case hQ13 => exact fun _ _ _ h => h
              case hy13 =>
                refine Or.inl ⟨by rfl, ?_⟩
                (intro wq hSw; (try dsimp only at hSw); go_simp; try with_reducible rfl)
              (try simp only [Act.put, List.setIfInBounds_toArray, List.set_cons_zero, List.set_cons_succ])
              refine wpAnyH_done (by kernel_rfl) ?_ _
              refine NoPanic.normal ?_
              go_wp2_with fail
              refine (jmark_any hjx).mono ?_
              rintro e wy ⟨rfl, rfl⟩
              rw [HN.out]
              go_wp2_with fail
              go_roundw
              case rel => exact ⟨k + 1, hist ++ [cur], cur2, by omega, by go_num, by rw [HN.out], by rw [HN2.out]; omega, ok2, hjx, (hb.trans (hHeld.mono hw))⟩
              case measure => simp [RowKit.intOf]; omega
            · have q1 : (er == 0) = false := by simpa using ee
              subst ej
              dsimp only at KP
              have HP := hid KP
              clear KP
              go_upto_region 10 with fail
              refine wp_region_noPanic ?_
              refine wp_region_held_drew (S := (fun W => Below w1.heap.size wr W)) (by kernel_rfl) ?_ (fun hHeld => ?_)
              · exact (Below.refl _ _).drew
              refine wpAnyH_take (i := 0) (oi := ?oi14) (v := ?v14) ?hi14 (by kernel_rfl) (by kernel_rfl) (by kernel_rfl) ?hQ14 ?hy14 (by assumption) ?hrest14
              case hi14 => (simp only [List.getElem?_toArray, List.getElem?_cons_zero]; try rfl)
              case hQ14 => exact fun _ _ _ h => h
              case hy14 =>
                refine Or.inl ⟨by rfl, ?_⟩
                (intro wq hSw; (try dsimp only at hSw); go_simp; try with_reducible rfl)
              (try simp only [Act.put, List.setIfInBounds_toArray, List.set_cons_zero, List.set_cons_succ])
              refine wpAnyH_take (i := 1) (oi := ?oi15) (v := ?v15) ?hi15 (by kernel_rfl) (by kernel_rfl) (by kernel_rfl) ?hQ15 ?hy15 (by assumption) ?hrest15
              case hi15 => (simp only [List.getElem?_toArray, List.getElem?_cons_succ, List.getElem?_cons_zero]; try rfl)
              case hQ15 => exact fun _ _ _ h => h
              case hy15 =>
                refine Or.inl ⟨by rfl, ?_⟩
                (intro wq hSw; (try dsimp only at hSw); go_simp; try with_reducible rfl)
              (try simp only [Act.put, List.setIfInBounds_toArray, List.set_cons_zero, List.set_cons_succ])
              refine wpAnyH_take (i := 2) (oi := ?oi16) (v := ?v16) ?hi16 (by kernel_rfl) (by kernel_rfl) (by kernel_rfl) ?hQ16 ?hy16 (by assumption) ?hrest16
              case hi16 => (simp only [List.getElem?_toArray, List.getElem?_cons_succ, List.getElem?_cons_zero]; try rfl)
              case hQ16 => exact fun _ _ _ h => h
              case hy16 =>
                refine Or.inl ⟨by rfl, ?_⟩
                (intro wq hSw; (try dsimp only at hSw); go_simp; try with_reducible rfl)
              (try simp only [Act.put, List.setIfInBounds_toArray, List.set_cons_zero, List.set_cons_succ])
              refine wpAnyH_take (i := 3) (oi := ?oi17) (v := ?v17) ?hi17 (by kernel_rfl) (by kernel_rfl) (by kernel_rfl) ?hQ17 ?hy17 (by assumption) ?hrest17
              case hi17 => (simp only [List.getElem?_toArray, List.getElem?_cons_succ, List.getElem?_cons_zero]; try rfl)
              case hQ17 => exact fun _ _ _ h => h
              case hy17 =>
                refine Or.inl ⟨by rfl, ?_⟩
                (intro wq hSw; (try dsimp only at hSw); go_simp; try with_reducible rfl)
              (try simp only [Act.put, List.setIfInBounds_toArray, List.set_cons_zero, List.set_cons_succ])
              refine wpAnyH_take (i := 4) (oi := ?oi18) (v := ?v18) ?hi18 (by kernel_rfl) (by kernel_rfl) (by kernel_rfl) ?hQ18 ?hy18 (by assumption) ?hrest18
              case hi18 => (simp only [List.getElem?_toArray, List.getElem?_cons_succ, List.getElem?_cons_zero]; try rfl)
              case hQ18 => exact fun _ _ _ h => h
              case hy18 =>
                refine Or.inl ⟨by rfl, ?_⟩
                (intro wq hSw; (try dsimp only at hSw); go_simp; try with_reducible rfl)
              (try simp only [Act.put, List.setIfInBounds_toArray, List.set_cons_zero, List.set_cons_succ])
              refine wpAnyH_take (i := 5) (oi := ?oi19) (v := ?v19) ?hi19 (by kernel_rfl) (by kernel_rfl) (by kernel_rfl) ?hQ19 ?hy19 (by assumption) ?hrest19
              case hi19 => (simp only [List.getElem?_toArray, List.getElem?_cons_succ, List.getElem?_cons_zero]; try rfl)
              case hQ19 => exact fun _ _ _ h => h
              case hy19 =>
                refine Or.inl ⟨by rfl, ?_⟩
                (intro wq hSw; (try dsimp only at hSw); go_simp; try with_reducible rfl)
              (try simp only [Act.put, List.setIfInBounds_toArray, List.set_cons_zero, List.set_cons_succ])
              refine wpAnyH_take (i := 6) (oi := ?oi20) (v := ?v20) ?hi20 (by kernel_rfl) (by kernel_rfl) (by kernel_rfl) ?hQ20 ?hy20 (by assumption) ?hrest20
              case hi20 => (simp only [List.getElem?_toArray, List.getElem?_cons_succ, List.getElem?_cons_zero]; try rfl)
              case hQ20 => exact fun _ _ _ h => h
              case hy20 =>
                refine Or.inl ⟨by rfl, ?_⟩
                (intro wq hSw; (try dsimp only at hSw); go_simp; try with_reducible rfl)
              (try simp only [Act.put, List.setIfInBounds_toArray, List.set_cons_zero, List.set_cons_succ])
              refine wpAnyH_take (i := 7) (oi := ?oi21) (v := ?v21) ?hi21 (by kernel_rfl) (by kernel_rfl) (by kernel_rfl) ?hQ21 ?hy21 (by assumption) ?hrest21
              case hi21 => (simp only [List.getElem?_toArray, List.getElem?_cons_succ, List.getElem?_cons_zero]; try rfl)
              case hQ21 => exact fun _ _ _ h => h
              case hy21 =>
                refine Or.inl ⟨by rfl, ?_⟩
                (intro wq hSw; (try dsimp only at hSw); go_simp; try with_reducible rfl)
              (try simp only [Act.put, List.setIfInBounds_toArray, List.set_cons_zero, List.set_cons_succ])
              refine wpAnyH_take (i := 8) (oi := ?oi22) (v := ?v22) ?hi22 (by kernel_rfl) (by kernel_rfl) (by kernel_rfl) ?hQ22 ?hy22 (by assumption) ?hrest22
              case hi22 => (simp only [List.getElem?_toArray, List.getElem?_cons_succ, List.getElem?_cons_zero]; try rfl)
              case hQ22 => exact fun _ _ _ h => h
              case hy22 =>
                refine Or.inl ⟨by rfl, ?_⟩
                (intro wq hSw; (try dsimp only at hSw); go_simp; try with_reducible rfl)
              (try simp only [Act.put, List.setIfInBounds_toArray, List.set_cons_zero, List.set_cons_succ])
              refine wpAnyH_take (i := 9) (oi := ?oi23) (v := ?v23) ?hi23 (by kernel_rfl) (by kernel_rfl) (by kernel_rfl) ?hQ23 ?hy23 (by assumption) ?hrest23
              case hi23 => (simp only [List.getElem?_toArray, List.getElem?_cons_succ, List.getElem?_cons_zero]; try rfl)
              case hQ23 => exact fun _ _ _ h => h
              case hy23 =>
                refine Or.inl ⟨by rfl, ?_⟩
                (intro wq hSw; (try dsimp only at hSw); go_simp; try with_reducible rfl)
              (try simp only [Act.put, List.setIfInBounds_toArray, List.set_cons_zero, List.set_cons_succ])
              refine wpAnyH_take (i := 10) (oi := ?oi24) (v := ?v24) ?hi24 (by kernel_rfl) (by kernel_rfl) (by kernel_rfl) ?hQ24 ?hy24 (by assumption) ?hrest24
              case hi24 => (simp only [List.getElem?_toArray, List.getElem?_cons_succ, List.getElem?_cons_zero]; try rfl)
              case hQ24 => exact fun _ _ _ h => h
              case hy24 =>
                refine Or.inl ⟨by rfl, ?_⟩
                (intro wq hSw; (try dsimp only at hSw); go_simp; try with_reducible rfl)
              (try simp only [Act.put, List.setIfInBounds_toArray, List.set_cons_zero, List.set_cons_succ])
              refine wpAnyH_ready (rs := [11]) (by kernel_rfl) (by simp) ?_
              refine AllReadyH.cons (o := ?oi25) ?hi25 (fun K hK => ?hstep25) AllReadyH.nil
              case hi25 => (simp only [List.getElem?_toArray, List.getElem?_cons_succ, List.getElem?_cons_zero]; try rfl)
              go_simp
              (refine HP.out.mono ?_; rintro e wx ⟨rfl, hjx, hbx⟩)
              refine hK.out _ _ ?_ (fun hHeld => ?_)
              · exact hHeld.trans hbx
              clear hK K
              (try simp only [Act.put, List.setIfInBounds_toArray, List.set_cons_zero, List.set_cons_succ])
              refine wpAnyH_take (i := 12) (oi := ?oi26) (v := ?v26) ?hi26 (by kernel_rfl) (by kernel_rfl) (by kernel_rfl) ?hQ26 ?hy26 (by assumption) ?hrest26
              case hi26 => (simp only [List.getElem?_toArray, List.getElem?_cons_succ, List.getElem?_cons_zero]; try rfl)
              case hQ26 => exact fun _ _ _ h => h
              case hy26 =>
                refine Or.inl ⟨by rfl, ?_⟩
                (intro wq hSw; (try dsimp only at hSw); go_simp; try with_reducible rfl)
              (try simp only [Act.put, List.setIfInBounds_toArray, List.set_cons_zero, List.set_cons_succ])
              refine wpAnyH_done (by kernel_rfl) ?_ _
              refine NoPanic.normal ?_
              go_wp2_with fail
              refine (jmark_any hjx).mono ?_
              rintro e wy ⟨rfl, rfl⟩
              skip
              go_wp2_with fail
              go_roundw
              case rel => exact ⟨k + 1, hist, cur, by omega, by go_num, rfl, by omega, hok, hjx, (hb.trans (hHeld.mono hw))⟩
              case measure => simp [RowKit.intOf]; omega
          · have q1 : (z == 0) = false := by simpa using ez
            clear KP
            go_wp2_with fail
            refine KD.out.mono ?_
            rintro e wx ⟨⟨v, rfl⟩, hjx, hbx⟩
            go_wp2_with fail
            refine (jmark_any hjx).mono ?_
            rintro e wy ⟨rfl, rfl⟩
            rw [HN.out]
            go_wp2_with fail
            go_roundw
            case rel => exact ⟨k + 1, hist ++ [cur], D, by omega, by go_num, by rw [HN.out], by rw [HN2.out]; omega, hkd, hjx, hb.trans (hbx.mono hw)⟩
            case measure => simp [RowKit.intOf]; omega
        · obtain ⟨un, rfl⟩ : ∃ un : Nat, u = un := ⟨u.toNat, by omega⟩
          by_cases hun : un ≤ hist.length
          · have j1 : ¬ (hist.length : Int) < un := by omega
            go_wp2_with fail
            refine (jundo_ok hj (by omega) un hun).mono ?_
            rintro e wx ⟨rfl, hjx, hbx⟩
            have hl : (hist.take un).length = un := by simp; omega
            go_wp2_with fail
            refine (jmark_any hjx).mono ?_
            rintro e wy ⟨rfl, rfl⟩
            rw [hl]
            go_wp2_with fail
            go_ret
            exact ⟨rfl, hb.trans (hbx.mono hw)⟩
          · have j1 : (hist.length : Int) < un := by omega
            go_wp2_with fail
            refine (jundo_no hj un (.inr j1)).mono ?_
            rintro e wx ⟨rfl, rfl⟩
            go_wp2_with fail
            refine (jmark_any hj).mono ?_
            rintro e wy ⟨rfl, rfl⟩
            go_wp2_with fail
            go_ret
            exact ⟨rfl, hb⟩
  · have hr : rightP L = false := by simpa using hr
    go_wp2_with fail
    refine (jnew_no (h.below hb1) hz hr).mono ?_
    rintro e w2 ⟨rfl, hb2⟩
    go_wp2_with fail
    go_ret
    exact ⟨rfl, below_step hb1 hb2⟩
end Go.Proofs.Ytlekoeddcjjjdaa
