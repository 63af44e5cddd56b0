/-
  The walk of the law JournalGets.
-/
import Derived.Test.YtlekoeddcjjjdaaJourF
namespace Go.Proofs.Ytlekoeddcjjjdaa
open Go.RowKit Go.Cov Go.Lib
set_option maxRecDepth 100000 in
set_option maxHeartbeats 12800000 in
theorem gets_law {A B : Option Addr} {c d : Nat} {os : List Ow} {m : List UInt8} {w : World} (g : Els owEl w A os) (gk : Rd w B (m.map byt)) :
    Calls Try.prog 7 #[.slice A os.length c, .slice B m.length d] w fun e w' => e = .returned (.bool true) ∧ Below w.heap.size w w' := by
  go_enter Try.func7, Try.ntmps7
  go_wp2_with fail
  refine (jhead_any w).mono ?_
  rintro e w1 ⟨rfl, hb1⟩
  go_wp2_with fail
  refine (jnew_ok (xs := []) (A := none) (c := 0) (L := []) ⟨Els.nil _ _ _, Nat.le_refl 0, rfl⟩ (by decide) (by decide +kernel)).mono ?_
  rintro e w2 ⟨jb, rfl, hj2, hb2⟩
  have hw : w.heap.size ≤ w1.heap.size := hb1.size
  have b2 := below_step hb1 hb2
  by_cases hg : 300 < os.length
  · go_wp2_with fail
    refine (jgreat_any w2).mono ?_
    rintro e w3 ⟨rfl, rfl⟩
    rw [decide_eq_true hg]
    go_wp2_with fail
    go_ret
    exact ⟨rfl, b2⟩
  · go_wp2_with fail
    refine (jgreat_any w2).mono ?_
    rintro e w3 ⟨rfl, rfl⟩
    rw [decide_eq_false hg]
    go_wp2_with fail
    go_loopw [7, 8, 9] (fun a s i W => ∃ (k : Nat) (hist : List PL) (cur : PL) (b : Bool) (wl : List UInt8), k ≤ os.length ∧ i = .int .i64 k ∧ a = .bool b ∧ s = .string (str wl) ∧ hist.length ≤ k ∧ Okay cur ∧ getP cur m = (if b then some wl else none) ∧ Jn W w1.heap.size jb hist cur ∧ Below w.heap.size w W) (fun a s i _ => os.length - (RowKit.intOf i).toNat)
    case atStart => exact ⟨0, [], [], false, [], by omega, rfl, rfl, rfl, by simp, okay_iff.1 (by decide +kernel), rfl, hj2, b2⟩
    case round =>
      obtain ⟨k, hist, cur, b, wl, hk, rfl, rfl, rfl, hn, hok, hget, hj, hb⟩ := hrel
      have hbw : w1.heap.size ≤ wr.heap.size := jn_size hj
      by_cases hlt : k < os.length
      · obtain ⟨ad, rfl, h1, h2, h3, h4, h5, h6⟩ := ow_at g k hlt
        generalize os[k] = x at h1 h2 h3 h4 h5 h6
        have h1r := fun W (hW : Below w.heap.size w W) => cell_on hW h1
        have h2r := fun W (hW : Below w.heap.size w W) => cell_on hW h2
        have h3r := fun W (hW : Below w.heap.size w W) => cell_on hW h3
        have hbd := hb.drew
        have h1d := h1r _ hbd
        have h2d := h2r _ hbd
        have h3d := h3r _ hbd
        have i1 : (k : Int) < os.length := by omega
        have h2p := fun W (hW : Below wr.heap.size wr W) => h2r W (below_step hb hW)
        have cv1 := fun W (hW : Below wr.heap.size wr W) => conv_bs (P := Try.prog) Try.underlying30 Try.underlying5 Try.underlying9 (h5.below (below_step hb hW)) x.kc
        have cv2 := fun W (hW : Below wr.heap.size wr W) => conv_bs (P := Try.prog) Try.underlying30 Try.underlying5 Try.underlying9 (gk.below (below_step hb hW)) d
        have cv3 := fun W (hW : Below w.heap.size w W) => conv_bs (P := Try.prog) Try.underlying30 Try.underlying5 Try.underlying9 (h6.below hW) x.vc
        have CV3 := hid cv3
        clear cv3
        have s1 := str_beq x.k m
        have KO := hid (Classical.em (x.k = m))
        obtain ⟨own, hown⟩ : ∃ own, decide (x.k = m) = own := ⟨_, rfl⟩
        rw [hown] at s1
        have HOWN := hid hown
        clear hown
        go_upto_region 10 with fail
        refine wp_region_noPanic ?_
        refine wp_region_held_drew (S := (fun W => Below wr.heap.size wr W)) (by kernel_rfl) ?_ (fun hHeld => ?_)
        · exact (Below.refl _ _).drew
        refine wpAnyH_take (i := 0) (oi := ?oi1) (v := ?v1) ?hi1 (by kernel_rfl) (by kernel_rfl) (by kernel_rfl) ?hQ1 ?hy1 (by assumption) ?hrest1
        case hi1 => (simp only [List.getElem?_toArray, List.getElem?_cons_zero]; try rfl)
        case hQ1 => exact fun _ _ _ h => h
        case hy1 =>
          refine Or.inl ⟨by rfl, ?_⟩
          (intro wq hSw; (try dsimp only at hSw); go_simp; try with_reducible rfl)
        (try simp only [Act.put, List.setIfInBounds_toArray, List.set_cons_zero, List.set_cons_succ])
        refine wpAnyH_take (i := 1) (oi := ?oi2) (v := ?v2) ?hi2 (by kernel_rfl) (by kernel_rfl) (by kernel_rfl) ?hQ2 ?hy2 (by assumption) ?hrest2
        case hi2 => (simp only [List.getElem?_toArray, List.getElem?_cons_succ, List.getElem?_cons_zero]; try rfl)
        case hQ2 => exact fun _ _ _ h => h
        case hy2 =>
          refine Or.inl ⟨by rfl, ?_⟩
          (intro wq hSw; (try dsimp only at hSw); go_simp; try with_reducible rfl)
        (try simp only [Act.put, List.setIfInBounds_toArray, List.set_cons_zero, List.set_cons_succ])
        refine wpAnyH_take (i := 2) (oi := ?oi3) (v := ?v3) ?hi3 (by kernel_rfl) (by kernel_rfl) (by kernel_rfl) ?hQ3 ?hy3 (by assumption) ?hrest3
        case hi3 => (simp only [List.getElem?_toArray, List.getElem?_cons_succ, List.getElem?_cons_zero]; try rfl)
        case hQ3 => exact fun _ _ _ h => h
        case hy3 =>
          refine Or.inl ⟨by rfl, ?_⟩
          (intro wq hSw; (try dsimp only at hSw); go_simp; try with_reducible rfl)
        (try simp only [Act.put, List.setIfInBounds_toArray, List.set_cons_zero, List.set_cons_succ])
        refine wpAnyH_take (i := 3) (oi := ?oi4) (v := ?v4) ?hi4 (by kernel_rfl) (by kernel_rfl) (by kernel_rfl) ?hQ4 ?hy4 (by assumption) ?hrest4
        case hi4 => (simp only [List.getElem?_toArray, List.getElem?_cons_succ, List.getElem?_cons_zero]; try rfl)
        case hQ4 => exact fun _ _ _ h => h
        case hy4 =>
          refine Or.inl ⟨by rfl, ?_⟩
          (intro wq hSw; (try dsimp only at hSw); go_simp; try with_reducible rfl)
        (try simp only [Act.put, List.setIfInBounds_toArray, List.set_cons_zero, List.set_cons_succ])
        refine wpAnyH_take (i := 4) (oi := ?oi5) (v := ?v5) ?hi5 (by kernel_rfl) (by kernel_rfl) (by kernel_rfl) ?hQ5 ?hy5 (by assumption) ?hrest5
        case hi5 => (simp only [List.getElem?_toArray, List.getElem?_cons_succ, List.getElem?_cons_zero]; try rfl)
        case hQ5 => exact fun _ _ _ h => h
        case hy5 =>
          refine Or.inl ⟨by rfl, ?_⟩
          (intro wq hSw; (try dsimp only at hSw); go_simp; try with_reducible rfl)
        (try simp only [Act.put, List.setIfInBounds_toArray, List.set_cons_zero, List.set_cons_succ])
        refine wpAnyH_take (i := 5) (oi := ?oi6) (v := ?v6) ?hi6 (by kernel_rfl) (by kernel_rfl) (by kernel_rfl) ?hQ6 ?hy6 (by assumption) ?hrest6
        case hi6 => (simp only [List.getElem?_toArray, List.getElem?_cons_succ, List.getElem?_cons_zero]; try rfl)
        case hQ6 => exact fun _ _ _ h => h
        case hy6 =>
          refine Or.inl ⟨by rfl, ?_⟩
          (intro wq hSw; (try dsimp only at hSw); go_simp; try with_reducible rfl)
        (try simp only [Act.put, List.setIfInBounds_toArray, List.set_cons_zero, List.set_cons_succ])
        refine wpAnyH_take (i := 6) (oi := ?oi7) (v := ?v7) ?hi7 (by kernel_rfl) (by kernel_rfl) (by kernel_rfl) ?hQ7 ?hy7 (by assumption) ?hrest7
        case hi7 => (simp only [List.getElem?_toArray, List.getElem?_cons_succ, List.getElem?_cons_zero]; try rfl)
        case hQ7 => exact fun _ _ _ h => h
        case hy7 =>
          refine Or.inl ⟨by rfl, ?_⟩
          (intro wq hSw; (try dsimp only at hSw); go_simp; try with_reducible rfl)
        (try simp only [Act.put, List.setIfInBounds_toArray, List.set_cons_zero, List.set_cons_succ])
        refine wpAnyH_take (i := 7) (oi := ?oi8) (v := ?v8) ?hi8 (by kernel_rfl) (by kernel_rfl) (by kernel_rfl) ?hQ8 ?hy8 (by assumption) ?hrest8
        case hi8 => (simp only [List.getElem?_toArray, List.getElem?_cons_succ, List.getElem?_cons_zero]; try rfl)
        case hQ8 => exact fun _ _ _ h => h
        case hy8 =>
          refine Or.inl ⟨by rfl, ?_⟩
          (intro wq hSw; (try dsimp only at hSw); go_simp; try with_reducible rfl)
        (try simp only [Act.put, List.setIfInBounds_toArray, List.set_cons_zero, List.set_cons_succ])
        refine wpAnyH_take (i := 8) (oi := ?oi9) (v := ?v9) ?hi9 (by kernel_rfl) (by kernel_rfl) (by kernel_rfl) ?hQ9 ?hy9 (by assumption) ?hrest9
        case hi9 => (simp only [List.getElem?_toArray, List.getElem?_cons_succ, List.getElem?_cons_zero]; try rfl)
        case hQ9 => exact fun _ _ _ h => h
        case hy9 =>
          refine Or.inl ⟨by rfl, ?_⟩
          (intro wq hSw; (try dsimp only at hSw); go_simp; try with_reducible rfl)
        (try simp only [Act.put, List.setIfInBounds_toArray, List.set_cons_zero, List.set_cons_succ])
        refine wpAnyH_take (i := 9) (oi := ?oi10) (v := ?v10) ?hi10 (by kernel_rfl) (by kernel_rfl) (by kernel_rfl) ?hQ10 ?hy10 (by assumption) ?hrest10
        case hi10 => (simp only [List.getElem?_toArray, List.getElem?_cons_succ, List.getElem?_cons_zero]; try rfl)
        case hQ10 => exact fun _ _ _ h => h
        case hy10 =>
          refine Or.inl ⟨by rfl, ?_⟩
          (intro wq hSw; (try dsimp only at hSw); go_simp; try with_reducible rfl)
        (try simp only [Act.put, List.setIfInBounds_toArray, List.set_cons_zero, List.set_cons_succ])
        refine wpAnyH_done (by kernel_rfl) ?_ _
        refine NoPanic.normal ?_
        clear h2p cv1 cv2 s1
        have hjd := hj.below hHeld
        have hbd2 : Below w.heap.size w wr.drew := hbd
        have hdr := (Below.refl wr.drew.heap.size wr.drew).drew
        have h2q := fun W (hW : Below w1.heap.size wr.drew W) => h2r W (hbd.trans (hW.mono hw))
        have h3q := fun W (hW : Below w1.heap.size wr.drew W) => h3r W (hbd.trans (hW.mono hw))
        have KP := jputt_any (d := x.kc) (f := x.vc) (hjd.below hdr) hok (by omega) ((h5.below hbd).below hdr) ((h6.below hbd).below hdr)
        have KD := hid (jdel_any (d := x.kc) hjd hok (by omega) (h5.below hbd))
        have hkd := okay_del (m := x.k) hok
        have hpc := jput_cases (hist := hist) (m := x.k) (v := x.v) hok
        have hpi := jput_ins (hist := hist) (cur := cur) (m := x.k) (v := x.v)
        have HLL := hid (show (hist ++ [cur]).length ≤ k + 1 by simp; omega)
        have HL0 := hid (show hist.length ≤ k + 1 by omega)
        have gi1 : x.k = m → getP (insP cur x.k x.v) m = some x.v := fun e => by subst e; exact get_ins hok.1
        have gi2 : x.k ≠ m → getP (insP cur x.k x.v) m = getP cur m := fun e => get_ins_other hok.1 (fun e2 => e e2.symm)
        have gd1 : x.k = m → getP (delP cur x.k) m = none := fun e => by subst e; exact get_del hok.1
        have gd2 : x.k ≠ m → getP (delP cur x.k) m = getP cur m := fun e => get_del_other hok.1 (fun e2 => e e2.symm)
        generalize delP cur x.k = DD at KD hkd gd1 gd2
        obtain ⟨z, hz⟩ : ∃ z, bits .and .i64 x.what 1 = z := ⟨_, rfl⟩
        by_cases ez : z = 0
        · subst ez
          clear KD hkd gd1 gd2
          generalize (putR cur x.k x.v).2 = er at KP hpc hpi
          generalize jput hist cur x.k x.v = J at KP hpc hpi
          rcases hpc with ⟨ee, ej, ok2⟩ | ⟨ee, ej⟩
          · have hpe := hpi ee
            clear hpi
            subst ee
            obtain ⟨hist2, cur2⟩ := J
            dsimp only at ej ok2 KP hpe
            subst hpe
            obtain ⟨cur2, hc2⟩ : ∃ C, insP cur x.k x.v = C := ⟨_, rfl⟩
            rw [hc2] at gi1 gi2 ok2 KP
            clear hc2
            have HL := hid (show hist2.length ≤ k + 1 by rw [ej]; exact HLL.out)
            clear ej
            by_cases ho : x.k = m
            · obtain rfl : own = true := by rw [← HOWN.out]; exact decide_eq_true ho
              have hget2 := gi1 ho
              clear gi1 gi2 ho
              cases b
              · have HP := hid KP
                clear KP
                go_upto_region 12 with fail
                refine wp_region_noPanic ?_
                refine wp_region_held_drew (S := (fun W => Below w1.heap.size wr.drew W)) (by kernel_rfl) ?_ (fun hHeld => ?_)
                · exact (Below.refl _ _).drew
                refine wpAnyH_take (i := 0) (oi := ?oi11) (v := ?v11) ?hi11 (by kernel_rfl) (by kernel_rfl) (by kernel_rfl) ?hQ11 ?hy11 (by assumption) ?hrest11
                case hi11 => (simp only [List.getElem?_toArray, List.getElem?_cons_zero]; try rfl)
                case hQ11 => exact fun _ _ _ h => h
                case hy11 =>
                  refine Or.inl ⟨by rfl, ?_⟩
                  (intro wq hSw; (try dsimp only at hSw); go_simp; try with_reducible rfl)
                (try simp only [Act.put, List.setIfInBounds_toArray, List.set_cons_zero, List.set_cons_succ])
                refine wpAnyH_take (i := 1) (oi := ?oi12) (v := ?v12) ?hi12 (by kernel_rfl) (by kernel_rfl) (by kernel_rfl) ?hQ12 ?hy12 (by assumption) ?hrest12
                case hi12 => (simp only [List.getElem?_toArray, List.getElem?_cons_succ, List.getElem?_cons_zero]; try rfl)
                case hQ12 => exact fun _ _ _ h => h
                case hy12 =>
                  refine Or.inl ⟨by rfl, ?_⟩
                  (intro wq hSw; (try dsimp only at hSw); go_simp; try with_reducible rfl)
                (try simp only [Act.put, List.setIfInBounds_toArray, List.set_cons_zero, List.set_cons_succ])
                refine wpAnyH_take (i := 2) (oi := ?oi13) (v := ?v13) ?hi13 (by kernel_rfl) (by kernel_rfl) (by kernel_rfl) ?hQ13 ?hy13 (by assumption) ?hrest13
                case hi13 => (simp only [List.getElem?_toArray, List.getElem?_cons_succ, List.getElem?_cons_zero]; try rfl)
                case hQ13 => exact fun _ _ _ h => h
                case hy13 =>
                  refine Or.inl ⟨by rfl, ?_⟩
                  (intro wq hSw; (try dsimp only at hSw); go_simp; try with_reducible rfl)
                (try simp only [Act.put, List.setIfInBounds_toArray, List.set_cons_zero, List.set_cons_succ])
                refine wpAnyH_take (i := 3) (oi := ?oi14) (v := ?v14) ?hi14 (by kernel_rfl) (by kernel_rfl) (by kernel_rfl) ?hQ14 ?hy14 (by assumption) ?hrest14
                case hi14 => (simp only [List.getElem?_toArray, List.getElem?_cons_succ, List.getElem?_cons_zero]; try rfl)
                case hQ14 => exact fun _ _ _ h => h
                case hy14 =>
                  refine Or.inl ⟨by rfl, ?_⟩
                  (intro wq hSw; (try dsimp only at hSw); go_simp; try with_reducible rfl)
                (try simp only [Act.put, List.setIfInBounds_toArray, List.set_cons_zero, List.set_cons_succ])
                refine wpAnyH_take (i := 4) (oi := ?oi15) (v := ?v15) ?hi15 (by kernel_rfl) (by kernel_rfl) (by kernel_rfl) ?hQ15 ?hy15 (by assumption) ?hrest15
                case hi15 => (simp only [List.getElem?_toArray, List.getElem?_cons_succ, List.getElem?_cons_zero]; try rfl)
                case hQ15 => exact fun _ _ _ h => h
                case hy15 =>
                  refine Or.inl ⟨by rfl, ?_⟩
                  (intro wq hSw; (try dsimp only at hSw); go_simp; try with_reducible rfl)
                (try simp only [Act.put, List.setIfInBounds_toArray, List.set_cons_zero, List.set_cons_succ])
                refine wpAnyH_take (i := 5) (oi := ?oi16) (v := ?v16) ?hi16 (by kernel_rfl) (by kernel_rfl) (by kernel_rfl) ?hQ16 ?hy16 (by assumption) ?hrest16
                case hi16 => (simp only [List.getElem?_toArray, List.getElem?_cons_succ, List.getElem?_cons_zero]; try rfl)
                case hQ16 => exact fun _ _ _ h => h
                case hy16 =>
                  refine Or.inl ⟨by rfl, ?_⟩
                  (intro wq hSw; (try dsimp only at hSw); go_simp; try with_reducible rfl)
                (try simp only [Act.put, List.setIfInBounds_toArray, List.set_cons_zero, List.set_cons_succ])
                refine wpAnyH_take (i := 6) (oi := ?oi17) (v := ?v17) ?hi17 (by kernel_rfl) (by kernel_rfl) (by kernel_rfl) ?hQ17 ?hy17 (by assumption) ?hrest17
                case hi17 => (simp only [List.getElem?_toArray, List.getElem?_cons_succ, List.getElem?_cons_zero]; try rfl)
                case hQ17 => exact fun _ _ _ h => h
                case hy17 =>
                  refine Or.inl ⟨by rfl, ?_⟩
                  (intro wq hSw; (try dsimp only at hSw); go_simp; try with_reducible rfl)
                (try simp only [Act.put, List.setIfInBounds_toArray, List.set_cons_zero, List.set_cons_succ])
                refine wpAnyH_take (i := 7) (oi := ?oi18) (v := ?v18) ?hi18 (by kernel_rfl) (by kernel_rfl) (by kernel_rfl) ?hQ18 ?hy18 (by assumption) ?hrest18
                case hi18 => (simp only [List.getElem?_toArray, List.getElem?_cons_succ, List.getElem?_cons_zero]; try rfl)
                case hQ18 => exact fun _ _ _ h => h
                case hy18 =>
                  refine Or.inl ⟨by rfl, ?_⟩
                  (intro wq hSw; (try dsimp only at hSw); go_simp; try with_reducible rfl)
                (try simp only [Act.put, List.setIfInBounds_toArray, List.set_cons_zero, List.set_cons_succ])
                refine wpAnyH_take (i := 8) (oi := ?oi19) (v := ?v19) ?hi19 (by kernel_rfl) (by kernel_rfl) (by kernel_rfl) ?hQ19 ?hy19 (by assumption) ?hrest19
                case hi19 => (simp only [List.getElem?_toArray, List.getElem?_cons_succ, List.getElem?_cons_zero]; try rfl)
                case hQ19 => exact fun _ _ _ h => h
                case hy19 =>
                  refine Or.inl ⟨by rfl, ?_⟩
                  (intro wq hSw; (try dsimp only at hSw); go_simp; try with_reducible rfl)
                (try simp only [Act.put, List.setIfInBounds_toArray, List.set_cons_zero, List.set_cons_succ])
                refine wpAnyH_take (i := 9) (oi := ?oi20) (v := ?v20) ?hi20 (by kernel_rfl) (by kernel_rfl) (by kernel_rfl) ?hQ20 ?hy20 (by assumption) ?hrest20
                case hi20 => (simp only [List.getElem?_toArray, List.getElem?_cons_succ, List.getElem?_cons_zero]; try rfl)
                case hQ20 => exact fun _ _ _ h => h
                case hy20 =>
                  refine Or.inl ⟨by rfl, ?_⟩
                  (intro wq hSw; (try dsimp only at hSw); go_simp; try with_reducible rfl)
                (try simp only [Act.put, List.setIfInBounds_toArray, List.set_cons_zero, List.set_cons_succ])
                refine wpAnyH_take (i := 10) (oi := ?oi21) (v := ?v21) ?hi21 (by kernel_rfl) (by kernel_rfl) (by kernel_rfl) ?hQ21 ?hy21 (by assumption) ?hrest21
                case hi21 => (simp only [List.getElem?_toArray, List.getElem?_cons_succ, List.getElem?_cons_zero]; try rfl)
                case hQ21 => exact fun _ _ _ h => h
                case hy21 =>
                  refine Or.inl ⟨by rfl, ?_⟩
                  (intro wq hSw; (try dsimp only at hSw); go_simp; try with_reducible rfl)
                (try simp only [Act.put, List.setIfInBounds_toArray, List.set_cons_zero, List.set_cons_succ])
                refine wpAnyH_ready (rs := [11]) (by kernel_rfl) (by simp) ?_
                refine AllReadyH.cons (o := ?oi22) ?hi22 (fun K hK => ?hstep22) AllReadyH.nil
                case hi22 => (simp only [List.getElem?_toArray, List.getElem?_cons_succ, List.getElem?_cons_zero]; try rfl)
                go_simp
                (refine HP.out.mono ?_; rintro e wx ⟨rfl, hjx, hbx⟩)
                refine hK.out _ _ ?_ (fun hHeld => ?_)
                · exact hHeld.trans hbx
                clear hK K
                (try simp only [Act.put, List.setIfInBounds_toArray, List.set_cons_zero, List.set_cons_succ])
                refine wpAnyH_take (i := 12) (oi := ?oi23) (v := ?v23) ?hi23 (by kernel_rfl) (by kernel_rfl) (by kernel_rfl) ?hQ23 ?hy23 (by assumption) ?hrest23
                case hi23 => (simp only [List.getElem?_toArray, List.getElem?_cons_succ, List.getElem?_cons_zero]; try rfl)
                case hQ23 => exact fun _ _ _ h => h
                case hy23 =>
                  refine Or.inl ⟨by rfl, ?_⟩
                  (intro wq hSw; (try dsimp only at hSw); go_simp; try with_reducible rfl)
                (try simp only [Act.put, List.setIfInBounds_toArray, List.set_cons_zero, List.set_cons_succ])
                refine wpAnyH_take (i := 13) (oi := ?oi24) (v := ?v24) ?hi24 (by kernel_rfl) (by kernel_rfl) (by kernel_rfl) ?hQ24 ?hy24 (by assumption) ?hrest24
                case hi24 => (simp only [List.getElem?_toArray, List.getElem?_cons_succ, List.getElem?_cons_zero]; try rfl)
                case hQ24 => exact fun _ _ _ h => h
                case hy24 =>
                  refine Or.inl ⟨by rfl, ?_⟩
                  (intro wq hSw; (try dsimp only at hSw); go_simp; try with_reducible rfl)
                (try simp only [Act.put, List.setIfInBounds_toArray, List.set_cons_zero, List.set_cons_succ])
                refine wpAnyH_take (i := 14) (oi := ?oi25) (v := ?v25) ?hi25 (by kernel_rfl) (by kernel_rfl) (by kernel_rfl) ?hQ25 ?hy25 (by assumption) ?hrest25
                case hi25 => (simp only [List.getElem?_toArray, List.getElem?_cons_succ, List.getElem?_cons_zero]; try rfl)
                case hQ25 => exact fun _ _ _ h => h
                case hy25 =>
                  refine Or.inl ⟨by rfl, ?_⟩
                  (intro wq hSw; (try dsimp only at hSw); go_simp; try with_reducible rfl)
                (try simp only [Act.put, List.setIfInBounds_toArray, List.set_cons_zero, List.set_cons_succ])
                refine wpAnyH_take (i := 15) (oi := ?oi26) (v := ?v26) ?hi26 (by kernel_rfl) (by kernel_rfl) (by kernel_rfl) ?hQ26 ?hy26 (by assumption) ?hrest26
                case hi26 => (simp only [List.getElem?_toArray, List.getElem?_cons_succ, List.getElem?_cons_zero]; try rfl)
                case hQ26 => exact fun _ _ _ h => h
                case hy26 =>
                  refine Or.inl ⟨by rfl, ?_⟩
                  (intro wq hSw; (try dsimp only at hSw); go_simp; try with_reducible rfl)
                (try simp only [Act.put, List.setIfInBounds_toArray, List.set_cons_zero, List.set_cons_succ])
                refine wpAnyH_done (by kernel_rfl) ?_ _
                refine NoPanic.normal ?_
                have hbx := hbd.trans (hHeld.mono hw)
                have h3x := h3r wx hbx
                have cv3 := CV3.out wx hbx
                have KG := jget_any (d := d) hjx ok2 (gk.below hbx)
                rw [show getP cur2 m = some x.v from hget2] at KG
                have KG := hid KG
                go_wp2_with fail
                refine KG.out.mono ?_
                rintro e wy ⟨D, kk, r, rfl, hr, hrd, hby⟩
                obtain rfl : x.v = r := hr
                have cvy := conv_bs (P := Try.prog) Try.underlying30 Try.underlying5 Try.underlying9 hrd kk
                have se := str_eq x.v
                go_wp2_with fail
                go_roundw
                case rel => exact ⟨k + 1, hist2, cur2, true, x.v, by omega, by go_num, rfl, rfl, HL.out, ok2, hget2, hjx.below hby, below_step hbx hby⟩
                case measure => simp [RowKit.intOf]; omega
              · have HP := hid KP
                clear KP
                go_upto_region 12 with fail
                refine wp_region_noPanic ?_
                refine wp_region_held_drew (S := (fun W => Below w1.heap.size wr.drew W)) (by kernel_rfl) ?_ (fun hHeld => ?_)
                · exact (Below.refl _ _).drew
                refine wpAnyH_take (i := 0) (oi := ?oi27) (v := ?v27) ?hi27 (by kernel_rfl) (by kernel_rfl) (by kernel_rfl) ?hQ27 ?hy27 (by assumption) ?hrest27
                case hi27 => (simp only [List.getElem?_toArray, List.getElem?_cons_zero]; try rfl)
                case hQ27 => exact fun _ _ _ h => h
                case hy27 =>
                  refine Or.inl ⟨by rfl, ?_⟩
                  (intro wq hSw; (try dsimp only at hSw); go_simp; try with_reducible rfl)
                (try simp only [Act.put, List.setIfInBounds_toArray, List.set_cons_zero, List.set_cons_succ])
                refine wpAnyH_take (i := 1) (oi := ?oi28) (v := ?v28) ?hi28 (by kernel_rfl) (by kernel_rfl) (by kernel_rfl) ?hQ28 ?hy28 (by assumption) ?hrest28
                case hi28 => (simp only [List.getElem?_toArray, List.getElem?_cons_succ, List.getElem?_cons_zero]; try rfl)
                case hQ28 => exact fun _ _ _ h => h
                case hy28 =>
                  refine Or.inl ⟨by rfl, ?_⟩
                  (intro wq hSw; (try dsimp only at hSw); go_simp; try with_reducible rfl)
                (try simp only [Act.put, List.setIfInBounds_toArray, List.set_cons_zero, List.set_cons_succ])
                refine wpAnyH_take (i := 2) (oi := ?oi29) (v := ?v29) ?hi29 (by kernel_rfl) (by kernel_rfl) (by kernel_rfl) ?hQ29 ?hy29 (by assumption) ?hrest29
                case hi29 => (simp only [List.getElem?_toArray, List.getElem?_cons_succ, List.getElem?_cons_zero]; try rfl)
                case hQ29 => exact fun _ _ _ h => h
                case hy29 =>
                  refine Or.inl ⟨by rfl, ?_⟩
                  (intro wq hSw; (try dsimp only at hSw); go_simp; try with_reducible rfl)
                (try simp only [Act.put, List.setIfInBounds_toArray, List.set_cons_zero, List.set_cons_succ])
                refine wpAnyH_take (i := 3) (oi := ?oi30) (v := ?v30) ?hi30 (by kernel_rfl) (by kernel_rfl) (by kernel_rfl) ?hQ30 ?hy30 (by assumption) ?hrest30
                case hi30 => (simp only [List.getElem?_toArray, List.getElem?_cons_succ, List.getElem?_cons_zero]; try rfl)
                case hQ30 => exact fun _ _ _ h => h
                case hy30 =>
                  refine Or.inl ⟨by rfl, ?_⟩
                  (intro wq hSw; (try dsimp only at hSw); go_simp; try with_reducible rfl)
                (try simp only [Act.put, List.setIfInBounds_toArray, List.set_cons_zero, List.set_cons_succ])
                refine wpAnyH_take (i := 4) (oi := ?oi31) (v := ?v31) ?hi31 (by kernel_rfl) (by kernel_rfl) (by kernel_rfl) ?hQ31 ?hy31 (by assumption) ?hrest31
                case hi31 => (simp only [List.getElem?_toArray, List.getElem?_cons_succ, List.getElem?_cons_zero]; try rfl)
                case hQ31 => exact fun _ _ _ h => h
                case hy31 =>
                  refine Or.inl ⟨by rfl, ?_⟩
                  (intro wq hSw; (try dsimp only at hSw); go_simp; try with_reducible rfl)
                (try simp only [Act.put, List.setIfInBounds_toArray, List.set_cons_zero, List.set_cons_succ])
                refine wpAnyH_take (i := 5) (oi := ?oi32) (v := ?v32) ?hi32 (by kernel_rfl) (by kernel_rfl) (by kernel_rfl) ?hQ32 ?hy32 (by assumption) ?hrest32
                case hi32 => (simp only [List.getElem?_toArray, List.getElem?_cons_succ, List.getElem?_cons_zero]; try rfl)
                case hQ32 => exact fun _ _ _ h => h
                case hy32 =>
                  refine Or.inl ⟨by rfl, ?_⟩
                  (intro wq hSw; (try dsimp only at hSw); go_simp; try with_reducible rfl)
                (try simp only [Act.put, List.setIfInBounds_toArray, List.set_cons_zero, List.set_cons_succ])
                refine wpAnyH_take (i := 6) (oi := ?oi33) (v := ?v33) ?hi33 (by kernel_rfl) (by kernel_rfl) (by kernel_rfl) ?hQ33 ?hy33 (by assumption) ?hrest33
                case hi33 => (simp only [List.getElem?_toArray, List.getElem?_cons_succ, List.getElem?_cons_zero]; try rfl)
                case hQ33 => exact fun _ _ _ h => h
                case hy33 =>
                  refine Or.inl ⟨by rfl, ?_⟩
                  (intro wq hSw; (try dsimp only at hSw); go_simp; try with_reducible rfl)
                (try simp only [Act.put, List.setIfInBounds_toArray, List.set_cons_zero, List.set_cons_succ])
                refine wpAnyH_take (i := 7) (oi := ?oi34) (v := ?v34) ?hi34 (by kernel_rfl) (by kernel_rfl) (by kernel_rfl) ?hQ34 ?hy34 (by assumption) ?hrest34
                case hi34 => (simp only [List.getElem?_toArray, List.getElem?_cons_succ, List.getElem?_cons_zero]; try rfl)
                case hQ34 => exact fun _ _ _ h => h
                case hy34 =>
                  refine Or.inl ⟨by rfl, ?_⟩
                  (intro wq hSw; (try dsimp only at hSw); go_simp; try with_reducible rfl)
                (try simp only [Act.put, List.setIfInBounds_toArray, List.set_cons_zero, List.set_cons_succ])
                refine wpAnyH_take (i := 8) (oi := ?oi35) (v := ?v35) ?hi35 (by kernel_rfl) (by kernel_rfl) (by kernel_rfl) ?hQ35 ?hy35 (by assumption) ?hrest35
                case hi35 => (simp only [List.getElem?_toArray, List.getElem?_cons_succ, List.getElem?_cons_zero]; try rfl)
                case hQ35 => exact fun _ _ _ h => h
                case hy35 =>
                  refine Or.inl ⟨by rfl, ?_⟩
                  (intro wq hSw; (try dsimp only at hSw); go_simp; try with_reducible rfl)
                (try simp only [Act.put, List.setIfInBounds_toArray, List.set_cons_zero, List.set_cons_succ])
                refine wpAnyH_take (i := 9) (oi := ?oi36) (v := ?v36) ?hi36 (by kernel_rfl) (by kernel_rfl) (by kernel_rfl) ?hQ36 ?hy36 (by assumption) ?hrest36
                case hi36 => (simp only [List.getElem?_toArray, List.getElem?_cons_succ, List.getElem?_cons_zero]; try rfl)
                case hQ36 => exact fun _ _ _ h => h
                case hy36 =>
                  refine Or.inl ⟨by rfl, ?_⟩
                  (intro wq hSw; (try dsimp only at hSw); go_simp; try with_reducible rfl)
                (try simp only [Act.put, List.setIfInBounds_toArray, List.set_cons_zero, List.set_cons_succ])
                refine wpAnyH_take (i := 10) (oi := ?oi37) (v := ?v37) ?hi37 (by kernel_rfl) (by kernel_rfl) (by kernel_rfl) ?hQ37 ?hy37 (by assumption) ?hrest37
                case hi37 => (simp only [List.getElem?_toArray, List.getElem?_cons_succ, List.getElem?_cons_zero]; try rfl)
                case hQ37 => exact fun _ _ _ h => h
                case hy37 =>
                  refine Or.inl ⟨by rfl, ?_⟩
                  (intro wq hSw; (try dsimp only at hSw); go_simp; try with_reducible rfl)
                (try simp only [Act.put, List.setIfInBounds_toArray, List.set_cons_zero, List.set_cons_succ])
                refine wpAnyH_ready (rs := [11]) (by kernel_rfl) (by simp) ?_
                refine AllReadyH.cons (o := ?oi38) ?hi38 (fun K hK => ?hstep38) AllReadyH.nil
                case hi38 => (simp only [List.getElem?_toArray, List.getElem?_cons_succ, List.getElem?_cons_zero]; try rfl)
                go_simp
                (refine HP.out.mono ?_; rintro e wx ⟨rfl, hjx, hbx⟩)
                refine hK.out _ _ ?_ (fun hHeld => ?_)
                · exact hHeld.trans hbx
                clear hK K
                (try simp only [Act.put, List.setIfInBounds_toArray, List.set_cons_zero, List.set_cons_succ])
                refine wpAnyH_take (i := 12) (oi := ?oi39) (v := ?v39) ?hi39 (by kernel_rfl) (by kernel_rfl) (by kernel_rfl) ?hQ39 ?hy39 (by assumption) ?hrest39
                case hi39 => (simp only [List.getElem?_toArray, List.getElem?_cons_succ, List.getElem?_cons_zero]; try rfl)
                case hQ39 => exact fun _ _ _ h => h
                case hy39 =>
                  refine Or.inl ⟨by rfl, ?_⟩
                  (intro wq hSw; (try dsimp only at hSw); go_simp; try with_reducible rfl)
                (try simp only [Act.put, List.setIfInBounds_toArray, List.set_cons_zero, List.set_cons_succ])
                refine wpAnyH_take (i := 13) (oi := ?oi40) (v := ?v40) ?hi40 (by kernel_rfl) (by kernel_rfl) (by kernel_rfl) ?hQ40 ?hy40 (by assumption) ?hrest40
                case hi40 => (simp only [List.getElem?_toArray, List.getElem?_cons_succ, List.getElem?_cons_zero]; try rfl)
                case hQ40 => exact fun _ _ _ h => h
                case hy40 =>
                  refine Or.inl ⟨by rfl, ?_⟩
                  (intro wq hSw; (try dsimp only at hSw); go_simp; try with_reducible rfl)
                (try simp only [Act.put, List.setIfInBounds_toArray, List.set_cons_zero, List.set_cons_succ])
                refine wpAnyH_take (i := 14) (oi := ?oi41) (v := ?v41) ?hi41 (by kernel_rfl) (by kernel_rfl) (by kernel_rfl) ?hQ41 ?hy41 (by assumption) ?hrest41
                case hi41 => (simp only [List.getElem?_toArray, List.getElem?_cons_succ, List.getElem?_cons_zero]; try rfl)
                case hQ41 => exact fun _ _ _ h => h
                case hy41 =>
                  refine Or.inl ⟨by rfl, ?_⟩
                  (intro wq hSw; (try dsimp only at hSw); go_simp; try with_reducible rfl)
                (try simp only [Act.put, List.setIfInBounds_toArray, List.set_cons_zero, List.set_cons_succ])
                refine wpAnyH_take (i := 15) (oi := ?oi42) (v := ?v42) ?hi42 (by kernel_rfl) (by kernel_rfl) (by kernel_rfl) ?hQ42 ?hy42 (by assumption) ?hrest42
                case hi42 => (simp only [List.getElem?_toArray, List.getElem?_cons_succ, List.getElem?_cons_zero]; try rfl)
                case hQ42 => exact fun _ _ _ h => h
                case hy42 =>
                  refine Or.inl ⟨by rfl, ?_⟩
                  (intro wq hSw; (try dsimp only at hSw); go_simp; try with_reducible rfl)
                (try simp only [Act.put, List.setIfInBounds_toArray, List.set_cons_zero, List.set_cons_succ])
                refine wpAnyH_done (by kernel_rfl) ?_ _
                refine NoPanic.normal ?_
                have hbx := hbd.trans (hHeld.mono hw)
                have h3x := h3r wx hbx
                have cv3 := CV3.out wx hbx
                have KG := jget_any (d := d) hjx ok2 (gk.below hbx)
                rw [show getP cur2 m = some x.v from hget2] at KG
                have KG := hid KG
                go_wp2_with fail
                refine KG.out.mono ?_
                rintro e wy ⟨D, kk, r, rfl, hr, hrd, hby⟩
                obtain rfl : x.v = r := hr
                have cvy := conv_bs (P := Try.prog) Try.underlying30 Try.underlying5 Try.underlying9 hrd kk
                have se := str_eq x.v
                go_wp2_with fail
                go_roundw
                case rel => exact ⟨k + 1, hist2, cur2, true, x.v, by omega, by go_num, rfl, rfl, HL.out, ok2, hget2, hjx.below hby, below_step hbx hby⟩
                case measure => simp [RowKit.intOf]; omega
            · obtain rfl : own = false := by rw [← HOWN.out]; exact decide_eq_false ho
              have hget2 := (gi2 ho).trans hget
              clear gi1 gi2 ho
              cases b
              · have HP := hid KP
                clear KP
                go_upto_region 12 with fail
                refine wp_region_noPanic ?_
                refine wp_region_held_drew (S := (fun W => Below w1.heap.size wr.drew W)) (by kernel_rfl) ?_ (fun hHeld => ?_)
                · exact (Below.refl _ _).drew
                refine wpAnyH_take (i := 0) (oi := ?oi43) (v := ?v43) ?hi43 (by kernel_rfl) (by kernel_rfl) (by kernel_rfl) ?hQ43 ?hy43 (by assumption) ?hrest43
                case hi43 => (simp only [List.getElem?_toArray, List.getElem?_cons_zero]; try rfl)
                case hQ43 => exact fun _ _ _ h => h
                case hy43 =>
                  refine Or.inl ⟨by rfl, ?_⟩
                  (intro wq hSw; (try dsimp only at hSw); go_simp; try with_reducible rfl)
                (try simp only [Act.put, List.setIfInBounds_toArray, List.set_cons_zero, List.set_cons_succ])
                refine wpAnyH_take (i := 1) (oi := ?oi44) (v := ?v44) ?hi44 (by kernel_rfl) (by kernel_rfl) (by kernel_rfl) ?hQ44 ?hy44 (by assumption) ?hrest44
                case hi44 => (simp only [List.getElem?_toArray, List.getElem?_cons_succ, List.getElem?_cons_zero]; try rfl)
                case hQ44 => exact fun _ _ _ h => h
                case hy44 =>
                  refine Or.inl ⟨by rfl, ?_⟩
                  (intro wq hSw; (try dsimp only at hSw); go_simp; try with_reducible rfl)
                (try simp only [Act.put, List.setIfInBounds_toArray, List.set_cons_zero, List.set_cons_succ])
                refine wpAnyH_take (i := 2) (oi := ?oi45) (v := ?v45) ?hi45 (by kernel_rfl) (by kernel_rfl) (by kernel_rfl) ?hQ45 ?hy45 (by assumption) ?hrest45
                case hi45 => (simp only [List.getElem?_toArray, List.getElem?_cons_succ, List.getElem?_cons_zero]; try rfl)
                case hQ45 => exact fun _ _ _ h => h
                case hy45 =>
                  refine Or.inl ⟨by rfl, ?_⟩
                  (intro wq hSw; (try dsimp only at hSw); go_simp; try with_reducible rfl)
                (try simp only [Act.put, List.setIfInBounds_toArray, List.set_cons_zero, List.set_cons_succ])
                refine wpAnyH_take (i := 3) (oi := ?oi46) (v := ?v46) ?hi46 (by kernel_rfl) (by kernel_rfl) (by kernel_rfl) ?hQ46 ?hy46 (by assumption) ?hrest46
                case hi46 => (simp only [List.getElem?_toArray, List.getElem?_cons_succ, List.getElem?_cons_zero]; try rfl)
                case hQ46 => exact fun _ _ _ h => h
                case hy46 =>
                  refine Or.inl ⟨by rfl, ?_⟩
                  (intro wq hSw; (try dsimp only at hSw); go_simp; try with_reducible rfl)
                (try simp only [Act.put, List.setIfInBounds_toArray, List.set_cons_zero, List.set_cons_succ])
                refine wpAnyH_take (i := 4) (oi := ?oi47) (v := ?v47) ?hi47 (by kernel_rfl) (by kernel_rfl) (by kernel_rfl) ?hQ47 ?hy47 (by assumption) ?hrest47
                case hi47 => (simp only [List.getElem?_toArray, List.getElem?_cons_succ, List.getElem?_cons_zero]; try rfl)
                case hQ47 => exact fun _ _ _ h => h
                case hy47 =>
                  refine Or.inl ⟨by rfl, ?_⟩
                  (intro wq hSw; (try dsimp only at hSw); go_simp; try with_reducible rfl)
                (try simp only [Act.put, List.setIfInBounds_toArray, List.set_cons_zero, List.set_cons_succ])
                refine wpAnyH_take (i := 5) (oi := ?oi48) (v := ?v48) ?hi48 (by kernel_rfl) (by kernel_rfl) (by kernel_rfl) ?hQ48 ?hy48 (by assumption) ?hrest48
                case hi48 => (simp only [List.getElem?_toArray, List.getElem?_cons_succ, List.getElem?_cons_zero]; try rfl)
                case hQ48 => exact fun _ _ _ h => h
                case hy48 =>
                  refine Or.inl ⟨by rfl, ?_⟩
                  (intro wq hSw; (try dsimp only at hSw); go_simp; try with_reducible rfl)
                (try simp only [Act.put, List.setIfInBounds_toArray, List.set_cons_zero, List.set_cons_succ])
                refine wpAnyH_take (i := 6) (oi := ?oi49) (v := ?v49) ?hi49 (by kernel_rfl) (by kernel_rfl) (by kernel_rfl) ?hQ49 ?hy49 (by assumption) ?hrest49
                case hi49 => (simp only [List.getElem?_toArray, List.getElem?_cons_succ, List.getElem?_cons_zero]; try rfl)
                case hQ49 => exact fun _ _ _ h => h
                case hy49 =>
                  refine Or.inl ⟨by rfl, ?_⟩
                  (intro wq hSw; (try dsimp only at hSw); go_simp; try with_reducible rfl)
                (try simp only [Act.put, List.setIfInBounds_toArray, List.set_cons_zero, List.set_cons_succ])
                refine wpAnyH_take (i := 7) (oi := ?oi50) (v := ?v50) ?hi50 (by kernel_rfl) (by kernel_rfl) (by kernel_rfl) ?hQ50 ?hy50 (by assumption) ?hrest50
                case hi50 => (simp only [List.getElem?_toArray, List.getElem?_cons_succ, List.getElem?_cons_zero]; try rfl)
                case hQ50 => exact fun _ _ _ h => h
                case hy50 =>
                  refine Or.inl ⟨by rfl, ?_⟩
                  (intro wq hSw; (try dsimp only at hSw); go_simp; try with_reducible rfl)
                (try simp only [Act.put, List.setIfInBounds_toArray, List.set_cons_zero, List.set_cons_succ])
                refine wpAnyH_take (i := 8) (oi := ?oi51) (v := ?v51) ?hi51 (by kernel_rfl) (by kernel_rfl) (by kernel_rfl) ?hQ51 ?hy51 (by assumption) ?hrest51
                case hi51 => (simp only [List.getElem?_toArray, List.getElem?_cons_succ, List.getElem?_cons_zero]; try rfl)
                case hQ51 => exact fun _ _ _ h => h
                case hy51 =>
                  refine Or.inl ⟨by rfl, ?_⟩
                  (intro wq hSw; (try dsimp only at hSw); go_simp; try with_reducible rfl)
                (try simp only [Act.put, List.setIfInBounds_toArray, List.set_cons_zero, List.set_cons_succ])
                refine wpAnyH_take (i := 9) (oi := ?oi52) (v := ?v52) ?hi52 (by kernel_rfl) (by kernel_rfl) (by kernel_rfl) ?hQ52 ?hy52 (by assumption) ?hrest52
                case hi52 => (simp only [List.getElem?_toArray, List.getElem?_cons_succ, List.getElem?_cons_zero]; try rfl)
                case hQ52 => exact fun _ _ _ h => h
                case hy52 =>
                  refine Or.inl ⟨by rfl, ?_⟩
                  (intro wq hSw; (try dsimp only at hSw); go_simp; try with_reducible rfl)
                (try simp only [Act.put, List.setIfInBounds_toArray, List.set_cons_zero, List.set_cons_succ])
                refine wpAnyH_take (i := 10) (oi := ?oi53) (v := ?v53) ?hi53 (by kernel_rfl) (by kernel_rfl) (by kernel_rfl) ?hQ53 ?hy53 (by assumption) ?hrest53
                case hi53 => (simp only [List.getElem?_toArray, List.getElem?_cons_succ, List.getElem?_cons_zero]; try rfl)
                case hQ53 => exact fun _ _ _ h => h
                case hy53 =>
                  refine Or.inl ⟨by rfl, ?_⟩
                  (intro wq hSw; (try dsimp only at hSw); go_simp; try with_reducible rfl)
                (try simp only [Act.put, List.setIfInBounds_toArray, List.set_cons_zero, List.set_cons_succ])
                refine wpAnyH_ready (rs := [11]) (by kernel_rfl) (by simp) ?_
                refine AllReadyH.cons (o := ?oi54) ?hi54 (fun K hK => ?hstep54) AllReadyH.nil
                case hi54 => (simp only [List.getElem?_toArray, List.getElem?_cons_succ, List.getElem?_cons_zero]; try rfl)
                go_simp
                (refine HP.out.mono ?_; rintro e wx ⟨rfl, hjx, hbx⟩)
                refine hK.out _ _ ?_ (fun hHeld => ?_)
                · exact hHeld.trans hbx
                clear hK K
                (try simp only [Act.put, List.setIfInBounds_toArray, List.set_cons_zero, List.set_cons_succ])
                refine wpAnyH_take (i := 12) (oi := ?oi55) (v := ?v55) ?hi55 (by kernel_rfl) (by kernel_rfl) (by kernel_rfl) ?hQ55 ?hy55 (by assumption) ?hrest55
                case hi55 => (simp only [List.getElem?_toArray, List.getElem?_cons_succ, List.getElem?_cons_zero]; try rfl)
                case hQ55 => exact fun _ _ _ h => h
                case hy55 =>
                  refine Or.inl ⟨by rfl, ?_⟩
                  (intro wq hSw; (try dsimp only at hSw); go_simp; try with_reducible rfl)
                (try simp only [Act.put, List.setIfInBounds_toArray, List.set_cons_zero, List.set_cons_succ])
                refine wpAnyH_take (i := 13) (oi := ?oi56) (v := ?v56) ?hi56 (by kernel_rfl) (by kernel_rfl) (by kernel_rfl) ?hQ56 ?hy56 (by assumption) ?hrest56
                case hi56 => (simp only [List.getElem?_toArray, List.getElem?_cons_succ, List.getElem?_cons_zero]; try rfl)
                case hQ56 => exact fun _ _ _ h => h
                case hy56 =>
                  refine Or.inl ⟨by rfl, ?_⟩
                  (intro wq hSw; (try dsimp only at hSw); go_simp; try with_reducible rfl)
                (try simp only [Act.put, List.setIfInBounds_toArray, List.set_cons_zero, List.set_cons_succ])
                refine wpAnyH_take (i := 14) (oi := ?oi57) (v := ?v57) ?hi57 (by kernel_rfl) (by kernel_rfl) (by kernel_rfl) ?hQ57 ?hy57 (by assumption) ?hrest57
                case hi57 => (simp only [List.getElem?_toArray, List.getElem?_cons_succ, List.getElem?_cons_zero]; try rfl)
                case hQ57 => exact fun _ _ _ h => h
                case hy57 =>
                  refine Or.inl ⟨by rfl, ?_⟩
                  (intro wq hSw; (try dsimp only at hSw); go_simp; try with_reducible rfl)
                (try simp only [Act.put, List.setIfInBounds_toArray, List.set_cons_zero, List.set_cons_succ])
                refine wpAnyH_take (i := 15) (oi := ?oi58) (v := ?v58) ?hi58 (by kernel_rfl) (by kernel_rfl) (by kernel_rfl) ?hQ58 ?hy58 (by assumption) ?hrest58
                case hi58 => (simp only [List.getElem?_toArray, List.getElem?_cons_succ, List.getElem?_cons_zero]; try rfl)
                case hQ58 => exact fun _ _ _ h => h
                case hy58 =>
                  refine Or.inl ⟨by rfl, ?_⟩
                  (intro wq hSw; (try dsimp only at hSw); go_simp; try with_reducible rfl)
                (try simp only [Act.put, List.setIfInBounds_toArray, List.set_cons_zero, List.set_cons_succ])
                refine wpAnyH_done (by kernel_rfl) ?_ _
                refine NoPanic.normal ?_
                have hbx := hbd.trans (hHeld.mono hw)
                have KG := jget_any (d := d) hjx ok2 (gk.below hbx)
                rw [show getP cur2 m = none from hget2] at KG
                have KG := hid KG
                go_wp2_with fail
                refine KG.out.mono ?_
                rintro e wy ⟨D, kk, r, rfl, hr, hrd, hby⟩
                obtain rfl : [] = r := hr
                go_wp2_with fail
                go_roundw
                case rel => exact ⟨k + 1, hist2, cur2, false, wl, by omega, by go_num, rfl, rfl, HL.out, ok2, hget2, hjx.below hby, below_step hbx hby⟩
                case measure => simp [RowKit.intOf]; omega
              · have HP := hid KP
                clear KP
                go_upto_region 12 with fail
                refine wp_region_noPanic ?_
                refine wp_region_held_drew (S := (fun W => Below w1.heap.size wr.drew W)) (by kernel_rfl) ?_ (fun hHeld => ?_)
                · exact (Below.refl _ _).drew
                refine wpAnyH_take (i := 0) (oi := ?oi59) (v := ?v59) ?hi59 (by kernel_rfl) (by kernel_rfl) (by kernel_rfl) ?hQ59 ?hy59 (by assumption) ?hrest59
                case hi59 => (simp only [List.getElem?_toArray, List.getElem?_cons_zero]; try rfl)
                case hQ59 => exact fun _ _ _ h => h
                case hy59 =>
                  refine Or.inl ⟨by rfl, ?_⟩
                  (intro wq hSw; (try dsimp only at hSw); go_simp; try with_reducible rfl)
                (try simp only [Act.put, List.setIfInBounds_toArray, List.set_cons_zero, List.set_cons_succ])
                refine wpAnyH_take (i := 1) (oi := ?oi60) (v := ?v60) ?hi60 (by kernel_rfl) (by kernel_rfl) (by kernel_rfl) ?hQ60 ?hy60 (by assumption) ?hrest60
                case hi60 => (simp only [List.getElem?_toArray, List.getElem?_cons_succ, List.getElem?_cons_zero]; try rfl)
                case hQ60 => exact fun _ _ _ h => h
                case hy60 =>
                  refine Or.inl ⟨by rfl, ?_⟩
                  (intro wq hSw; (try dsimp only at hSw); go_simp; try with_reducible rfl)
                (try simp only [Act.put, List.setIfInBounds_toArray, List.set_cons_zero, List.set_cons_succ])
                refine wpAnyH_take (i := 2) (oi := ?oi61) (v := ?v61) ?hi61 (by kernel_rfl) (by kernel_rfl) (by kernel_rfl) ?hQ61 ?hy61 (by assumption) ?hrest61
                case hi61 => (simp only [List.getElem?_toArray, List.getElem?_cons_succ, List.getElem?_cons_zero]; try rfl)
                case hQ61 => exact fun _ _ _ h => h
                case hy61 =>
                  refine Or.inl ⟨by rfl, ?_⟩
                  (intro wq hSw; (try dsimp only at hSw); go_simp; try with_reducible rfl)
                (try simp only [Act.put, List.setIfInBounds_toArray, List.set_cons_zero, List.set_cons_succ])
                refine wpAnyH_take (i := 3) (oi := ?oi62) (v := ?v62) ?hi62 (by kernel_rfl) (by kernel_rfl) (by kernel_rfl) ?hQ62 ?hy62 (by assumption) ?hrest62
                case hi62 => (simp only [List.getElem?_toArray, List.getElem?_cons_succ, List.getElem?_cons_zero]; try rfl)
                case hQ62 => exact fun _ _ _ h => h
                case hy62 =>
                  refine Or.inl ⟨by rfl, ?_⟩
                  (intro wq hSw; (try dsimp only at hSw); go_simp; try with_reducible rfl)
                (try simp only [Act.put, List.setIfInBounds_toArray, List.set_cons_zero, List.set_cons_succ])
                refine wpAnyH_take (i := 4) (oi := ?oi63) (v := ?v63) ?hi63 (by kernel_rfl) (by kernel_rfl) (by kernel_rfl) ?hQ63 ?hy63 (by assumption) ?hrest63
                case hi63 => (simp only [List.getElem?_toArray, List.getElem?_cons_succ, List.getElem?_cons_zero]; try rfl)
                case hQ63 => exact fun _ _ _ h => h
                case hy63 =>
                  refine Or.inl ⟨by rfl, ?_⟩
                  (intro wq hSw; (try dsimp only at hSw); go_simp; try with_reducible rfl)
                (try simp only [Act.put, List.setIfInBounds_toArray, List.set_cons_zero, List.set_cons_succ])
                refine wpAnyH_take (i := 5) (oi := ?oi64) (v := ?v64) ?hi64 (by kernel_rfl) (by kernel_rfl) (by kernel_rfl) ?hQ64 ?hy64 (by assumption) ?hrest64
                case hi64 => (simp only [List.getElem?_toArray, List.getElem?_cons_succ, List.getElem?_cons_zero]; try rfl)
                case hQ64 => exact fun _ _ _ h => h
                case hy64 =>
                  refine Or.inl ⟨by rfl, ?_⟩
                  (intro wq hSw; (try dsimp only at hSw); go_simp; try with_reducible rfl)
                (try simp only [Act.put, List.setIfInBounds_toArray, List.set_cons_zero, List.set_cons_succ])
                refine wpAnyH_take (i := 6) (oi := ?oi65) (v := ?v65) ?hi65 (by kernel_rfl) (by kernel_rfl) (by kernel_rfl) ?hQ65 ?hy65 (by assumption) ?hrest65
                case hi65 => (simp only [List.getElem?_toArray, List.getElem?_cons_succ, List.getElem?_cons_zero]; try rfl)
                case hQ65 => exact fun _ _ _ h => h
                case hy65 =>
                  refine Or.inl ⟨by rfl, ?_⟩
                  (intro wq hSw; (try dsimp only at hSw); go_simp; try with_reducible rfl)
                (try simp only [Act.put, List.setIfInBounds_toArray, List.set_cons_zero, List.set_cons_succ])
                refine wpAnyH_take (i := 7) (oi := ?oi66) (v := ?v66) ?hi66 (by kernel_rfl) (by kernel_rfl) (by kernel_rfl) ?hQ66 ?hy66 (by assumption) ?hrest66
                case hi66 => (simp only [List.getElem?_toArray, List.getElem?_cons_succ, List.getElem?_cons_zero]; try rfl)
                case hQ66 => exact fun _ _ _ h => h
                case hy66 =>
                  refine Or.inl ⟨by rfl, ?_⟩
                  (intro wq hSw; (try dsimp only at hSw); go_simp; try with_reducible rfl)
                (try simp only [Act.put, List.setIfInBounds_toArray, List.set_cons_zero, List.set_cons_succ])
                refine wpAnyH_take (i := 8) (oi := ?oi67) (v := ?v67) ?hi67 (by kernel_rfl) (by kernel_rfl) (by kernel_rfl) ?hQ67 ?hy67 (by assumption) ?hrest67
                case hi67 => (simp only [List.getElem?_toArray, List.getElem?_cons_succ, List.getElem?_cons_zero]; try rfl)
                case hQ67 => exact fun _ _ _ h => h
                case hy67 =>
                  refine Or.inl ⟨by rfl, ?_⟩
                  (intro wq hSw; (try dsimp only at hSw); go_simp; try with_reducible rfl)
                (try simp only [Act.put, List.setIfInBounds_toArray, List.set_cons_zero, List.set_cons_succ])
                refine wpAnyH_take (i := 9) (oi := ?oi68) (v := ?v68) ?hi68 (by kernel_rfl) (by kernel_rfl) (by kernel_rfl) ?hQ68 ?hy68 (by assumption) ?hrest68
                case hi68 => (simp only [List.getElem?_toArray, List.getElem?_cons_succ, List.getElem?_cons_zero]; try rfl)
                case hQ68 => exact fun _ _ _ h => h
                case hy68 =>
                  refine Or.inl ⟨by rfl, ?_⟩
                  (intro wq hSw; (try dsimp only at hSw); go_simp; try with_reducible rfl)
                (try simp only [Act.put, List.setIfInBounds_toArray, List.set_cons_zero, List.set_cons_succ])
                refine wpAnyH_take (i := 10) (oi := ?oi69) (v := ?v69) ?hi69 (by kernel_rfl) (by kernel_rfl) (by kernel_rfl) ?hQ69 ?hy69 (by assumption) ?hrest69
                case hi69 => (simp only [List.getElem?_toArray, List.getElem?_cons_succ, List.getElem?_cons_zero]; try rfl)
                case hQ69 => exact fun _ _ _ h => h
                case hy69 =>
                  refine Or.inl ⟨by rfl, ?_⟩
                  (intro wq hSw; (try dsimp only at hSw); go_simp; try with_reducible rfl)
                (try simp only [Act.put, List.setIfInBounds_toArray, List.set_cons_zero, List.set_cons_succ])
                refine wpAnyH_ready (rs := [11]) (by kernel_rfl) (by simp) ?_
                refine AllReadyH.cons (o := ?oi70) ?hi70 (fun K hK => ?hstep70) AllReadyH.nil
                case hi70 => (simp only [List.getElem?_toArray, List.getElem?_cons_succ, List.getElem?_cons_zero]; try rfl)
                go_simp
                (refine HP.out.mono ?_; rintro e wx ⟨rfl, hjx, hbx⟩)
                refine hK.out _ _ ?_ (fun hHeld => ?_)
                · exact hHeld.trans hbx
                clear hK K
                (try simp only [Act.put, List.setIfInBounds_toArray, List.set_cons_zero, List.set_cons_succ])
                refine wpAnyH_take (i := 12) (oi := ?oi71) (v := ?v71) ?hi71 (by kernel_rfl) (by kernel_rfl) (by kernel_rfl) ?hQ71 ?hy71 (by assumption) ?hrest71
                case hi71 => (simp only [List.getElem?_toArray, List.getElem?_cons_succ, List.getElem?_cons_zero]; try rfl)
                case hQ71 => exact fun _ _ _ h => h
                case hy71 =>
                  refine Or.inl ⟨by rfl, ?_⟩
                  (intro wq hSw; (try dsimp only at hSw); go_simp; try with_reducible rfl)
                (try simp only [Act.put, List.setIfInBounds_toArray, List.set_cons_zero, List.set_cons_succ])
                refine wpAnyH_take (i := 13) (oi := ?oi72) (v := ?v72) ?hi72 (by kernel_rfl) (by kernel_rfl) (by kernel_rfl) ?hQ72 ?hy72 (by assumption) ?hrest72
                case hi72 => (simp only [List.getElem?_toArray, List.getElem?_cons_succ, List.getElem?_cons_zero]; try rfl)
                case hQ72 => exact fun _ _ _ h => h
                case hy72 =>
                  refine Or.inl ⟨by rfl, ?_⟩
                  (intro wq hSw; (try dsimp only at hSw); go_simp; try with_reducible rfl)
                (try simp only [Act.put, List.setIfInBounds_toArray, List.set_cons_zero, List.set_cons_succ])
                refine wpAnyH_take (i := 14) (oi := ?oi73) (v := ?v73) ?hi73 (by kernel_rfl) (by kernel_rfl) (by kernel_rfl) ?hQ73 ?hy73 (by assumption) ?hrest73
                case hi73 => (simp only [List.getElem?_toArray, List.getElem?_cons_succ, List.getElem?_cons_zero]; try rfl)
                case hQ73 => exact fun _ _ _ h => h
                case hy73 =>
                  refine Or.inl ⟨by rfl, ?_⟩
                  (intro wq hSw; (try dsimp only at hSw); go_simp; try with_reducible rfl)
                (try simp only [Act.put, List.setIfInBounds_toArray, List.set_cons_zero, List.set_cons_succ])
                refine wpAnyH_take (i := 15) (oi := ?oi74) (v := ?v74) ?hi74 (by kernel_rfl) (by kernel_rfl) (by kernel_rfl) ?hQ74 ?hy74 (by assumption) ?hrest74
                case hi74 => (simp only [List.getElem?_toArray, List.getElem?_cons_succ, List.getElem?_cons_zero]; try rfl)
                case hQ74 => exact fun _ _ _ h => h
                case hy74 =>
                  refine Or.inl ⟨by rfl, ?_⟩
                  (intro wq hSw; (try dsimp only at hSw); go_simp; try with_reducible rfl)
                (try simp only [Act.put, List.setIfInBounds_toArray, List.set_cons_zero, List.set_cons_succ])
                refine wpAnyH_done (by kernel_rfl) ?_ _
                refine NoPanic.normal ?_
                have hbx := hbd.trans (hHeld.mono hw)
                have KG := jget_any (d := d) hjx ok2 (gk.below hbx)
                rw [show getP cur2 m = some wl from hget2] at KG
                have KG := hid KG
                go_wp2_with fail
                refine KG.out.mono ?_
                rintro e wy ⟨D, kk, r, rfl, hr, hrd, hby⟩
                obtain rfl : wl = r := hr
                have cvy := conv_bs (P := Try.prog) Try.underlying30 Try.underlying5 Try.underlying9 hrd kk
                have se := str_eq wl
                go_wp2_with fail
                go_roundw
                case rel => exact ⟨k + 1, hist2, cur2, true, wl, by omega, by go_num, rfl, rfl, HL.out, ok2, hget2, hjx.below hby, below_step hbx hby⟩
                case measure => simp [RowKit.intOf]; omega
          · have q1 : (er == 0) = false := by simpa using ee
            subst ej
            dsimp only at KP
            have HL := HL0
            obtain ⟨hist2, eh⟩ : ∃ H, hist = H := ⟨_, rfl⟩
            obtain ⟨cur2, ec⟩ : ∃ H, cur = H := ⟨_, rfl⟩
            have hget2 := hget
            have ok2 := hok
            rw [ec] at hget2 ok2 KP
            rw [eh] at HL KP
            clear ec eh gi1 gi2
            cases b
            · have HP := hid KP
              clear KP
              go_upto_region 12 with fail
              refine wp_region_noPanic ?_
              refine wp_region_held_drew (S := (fun W => Below w1.heap.size wr.drew W)) (by kernel_rfl) ?_ (fun hHeld => ?_)
              · exact (Below.refl _ _).drew
              refine wpAnyH_take (i := 0) (oi := ?oi75) (v := ?v75) ?hi75 (by kernel_rfl) (by kernel_rfl) (by kernel_rfl) ?hQ75 ?hy75 (by assumption) ?hrest75
              case hi75 => (simp only [List.getElem?_toArray, List.getElem?_cons_zero]; try rfl)
              case hQ75 => exact fun _ _ _ h => h
              case hy75 =>
                refine Or.inl ⟨by rfl, ?_⟩
                (intro wq hSw; (try dsimp only at hSw); go_simp; try with_reducible rfl)
              (try simp only [Act.put, List.setIfInBounds_toArray, List.set_cons_zero, List.set_cons_succ])
              refine wpAnyH_take (i := 1) (oi := ?oi76) (v := ?v76) ?hi76 (by kernel_rfl) (by kernel_rfl) (by kernel_rfl) ?hQ76 ?hy76 (by assumption) ?hrest76
              case hi76 => (simp only [List.getElem?_toArray, List.getElem?_cons_succ, List.getElem?_cons_zero]; try rfl)
              case hQ76 => exact fun _ _ _ h => h
              case hy76 =>
                refine Or.inl ⟨by rfl, ?_⟩
                (intro wq hSw; (try dsimp only at hSw); go_simp; try with_reducible rfl)
              (try simp only [Act.put, List.setIfInBounds_toArray, List.set_cons_zero, List.set_cons_succ])
              refine wpAnyH_take (i := 2) (oi := ?oi77) (v := ?v77) ?hi77 (by kernel_rfl) (by kernel_rfl) (by kernel_rfl) ?hQ77 ?hy77 (by assumption) ?hrest77
              case hi77 => (simp only [List.getElem?_toArray, List.getElem?_cons_succ, List.getElem?_cons_zero]; try rfl)
              case hQ77 => exact fun _ _ _ h => h
              case hy77 =>
                refine Or.inl ⟨by rfl, ?_⟩
                (intro wq hSw; (try dsimp only at hSw); go_simp; try with_reducible rfl)
              (try simp only [Act.put, List.setIfInBounds_toArray, List.set_cons_zero, List.set_cons_succ])
              refine wpAnyH_take (i := 3) (oi := ?oi78) (v := ?v78) ?hi78 (by kernel_rfl) (by kernel_rfl) (by kernel_rfl) ?hQ78 ?hy78 (by assumption) ?hrest78
              case hi78 => (simp only [List.getElem?_toArray, List.getElem?_cons_succ, List.getElem?_cons_zero]; try rfl)
              case hQ78 => exact fun _ _ _ h => h
              case hy78 =>
                refine Or.inl ⟨by rfl, ?_⟩
                (intro wq hSw; (try dsimp only at hSw); go_simp; try with_reducible rfl)
              (try simp only [Act.put, List.setIfInBounds_toArray, List.set_cons_zero, List.set_cons_succ])
              refine wpAnyH_take (i := 4) (oi := ?oi79) (v := ?v79) ?hi79 (by kernel_rfl) (by kernel_rfl) (by kernel_rfl) ?hQ79 ?hy79 (by assumption) ?hrest79
              case hi79 => (simp only [List.getElem?_toArray, List.getElem?_cons_succ, List.getElem?_cons_zero]; try rfl)
              case hQ79 => exact fun _ _ _ h => h
              case hy79 =>
                refine Or.inl ⟨by rfl, ?_⟩
                (intro wq hSw; (try dsimp only at hSw); go_simp; try with_reducible rfl)
              (try simp only [Act.put, List.setIfInBounds_toArray, List.set_cons_zero, List.set_cons_succ])
              refine wpAnyH_take (i := 5) (oi := ?oi80) (v := ?v80) ?hi80 (by kernel_rfl) (by kernel_rfl) (by kernel_rfl) ?hQ80 ?hy80 (by assumption) ?hrest80
              case hi80 => (simp only [List.getElem?_toArray, List.getElem?_cons_succ, List.getElem?_cons_zero]; try rfl)
              case hQ80 => exact fun _ _ _ h => h
              case hy80 =>
                refine Or.inl ⟨by rfl, ?_⟩
                (intro wq hSw; (try dsimp only at hSw); go_simp; try with_reducible rfl)
              (try simp only [Act.put, List.setIfInBounds_toArray, List.set_cons_zero, List.set_cons_succ])
              refine wpAnyH_take (i := 6) (oi := ?oi81) (v := ?v81) ?hi81 (by kernel_rfl) (by kernel_rfl) (by kernel_rfl) ?hQ81 ?hy81 (by assumption) ?hrest81
              case hi81 => (simp only [List.getElem?_toArray, List.getElem?_cons_succ, List.getElem?_cons_zero]; try rfl)
              case hQ81 => exact fun _ _ _ h => h
              case hy81 =>
                refine Or.inl ⟨by rfl, ?_⟩
                (intro wq hSw; (try dsimp only at hSw); go_simp; try with_reducible rfl)
              (try simp only [Act.put, List.setIfInBounds_toArray, List.set_cons_zero, List.set_cons_succ])
              refine wpAnyH_take (i := 7) (oi := ?oi82) (v := ?v82) ?hi82 (by kernel_rfl) (by kernel_rfl) (by kernel_rfl) ?hQ82 ?hy82 (by assumption) ?hrest82
              case hi82 => (simp only [List.getElem?_toArray, List.getElem?_cons_succ, List.getElem?_cons_zero]; try rfl)
              case hQ82 => exact fun _ _ _ h => h
              case hy82 =>
                refine Or.inl ⟨by rfl, ?_⟩
                (intro wq hSw; (try dsimp only at hSw); go_simp; try with_reducible rfl)
              (try simp only [Act.put, List.setIfInBounds_toArray, List.set_cons_zero, List.set_cons_succ])
              refine wpAnyH_take (i := 8) (oi := ?oi83) (v := ?v83) ?hi83 (by kernel_rfl) (by kernel_rfl) (by kernel_rfl) ?hQ83 ?hy83 (by assumption) ?hrest83
              case hi83 => (simp only [List.getElem?_toArray, List.getElem?_cons_succ, List.getElem?_cons_zero]; try rfl)
              case hQ83 => exact fun _ _ _ h => h
              case hy83 =>
                refine Or.inl ⟨by rfl, ?_⟩
                (intro wq hSw; (try dsimp only at hSw); go_simp; try with_reducible rfl)
              (try simp only [Act.put, List.setIfInBounds_toArray, List.set_cons_zero, List.set_cons_succ])
              refine wpAnyH_take (i := 9) (oi := ?oi84) (v := ?v84) ?hi84 (by kernel_rfl) (by kernel_rfl) (by kernel_rfl) ?hQ84 ?hy84 (by assumption) ?hrest84
              case hi84 => (simp only [List.getElem?_toArray, List.getElem?_cons_succ, List.getElem?_cons_zero]; try rfl)
              case hQ84 => exact fun _ _ _ h => h
              case hy84 =>
                refine Or.inl ⟨by rfl, ?_⟩
                (intro wq hSw; (try dsimp only at hSw); go_simp; try with_reducible rfl)
              (try simp only [Act.put, List.setIfInBounds_toArray, List.set_cons_zero, List.set_cons_succ])
              refine wpAnyH_take (i := 10) (oi := ?oi85) (v := ?v85) ?hi85 (by kernel_rfl) (by kernel_rfl) (by kernel_rfl) ?hQ85 ?hy85 (by assumption) ?hrest85
              case hi85 => (simp only [List.getElem?_toArray, List.getElem?_cons_succ, List.getElem?_cons_zero]; try rfl)
              case hQ85 => exact fun _ _ _ h => h
              case hy85 =>
                refine Or.inl ⟨by rfl, ?_⟩
                (intro wq hSw; (try dsimp only at hSw); go_simp; try with_reducible rfl)
              (try simp only [Act.put, List.setIfInBounds_toArray, List.set_cons_zero, List.set_cons_succ])
              refine wpAnyH_ready (rs := [11]) (by kernel_rfl) (by simp) ?_
              refine AllReadyH.cons (o := ?oi86) ?hi86 (fun K hK => ?hstep86) AllReadyH.nil
              case hi86 => (simp only [List.getElem?_toArray, List.getElem?_cons_succ, List.getElem?_cons_zero]; try rfl)
              go_simp
              (refine HP.out.mono ?_; rintro e wx ⟨rfl, hjx, hbx⟩)
              refine hK.out _ _ ?_ (fun hHeld => ?_)
              · exact hHeld.trans hbx
              clear hK K
              (try simp only [Act.put, List.setIfInBounds_toArray, List.set_cons_zero, List.set_cons_succ])
              refine wpAnyH_take (i := 12) (oi := ?oi87) (v := ?v87) ?hi87 (by kernel_rfl) (by kernel_rfl) (by kernel_rfl) ?hQ87 ?hy87 (by assumption) ?hrest87
              case hi87 => (simp only [List.getElem?_toArray, List.getElem?_cons_succ, List.getElem?_cons_zero]; try rfl)
              case hQ87 => exact fun _ _ _ h => h
              case hy87 =>
                refine Or.inl ⟨by rfl, ?_⟩
                (intro wq hSw; (try dsimp only at hSw); go_simp; try with_reducible rfl)
              (try simp only [Act.put, List.setIfInBounds_toArray, List.set_cons_zero, List.set_cons_succ])
              refine wpAnyH_take (i := 13) (oi := ?oi88) (v := ?v88) ?hi88 (by kernel_rfl) (by kernel_rfl) (by kernel_rfl) ?hQ88 ?hy88 (by assumption) ?hrest88
              case hi88 => (simp only [List.getElem?_toArray, List.getElem?_cons_succ, List.getElem?_cons_zero]; try rfl)
              case hQ88 => exact fun _ _ _ h => h
              case hy88 =>
                refine Or.inl ⟨by rfl, ?_⟩
                (intro wq hSw; (try dsimp only at hSw); go_simp; try with_reducible rfl)
              (try simp only [Act.put, List.setIfInBounds_toArray, List.set_cons_zero, List.set_cons_succ])
              refine wpAnyH_take (i := 14) (oi := ?oi89) (v := undef) ?hi89 (by kernel_rfl) (by kernel_rfl) (by kernel_rfl) ?hQ89 ?hy89 (by assumption) ?hrest89
              case hi89 => (simp only [List.getElem?_toArray, List.getElem?_cons_succ, List.getElem?_cons_zero]; try rfl)
              case hQ89 => exact fun _ _ _ h => h
              case hy89 => exact Or.inr ⟨by rfl, rfl⟩
              (try simp only [Act.put, List.setIfInBounds_toArray, List.set_cons_zero, List.set_cons_succ])
              refine wpAnyH_take (i := 15) (oi := ?oi90) (v := ?v90) ?hi90 (by kernel_rfl) (by kernel_rfl) (by kernel_rfl) ?hQ90 ?hy90 (by assumption) ?hrest90
              case hi90 => (simp only [List.getElem?_toArray, List.getElem?_cons_succ, List.getElem?_cons_zero]; try rfl)
              case hQ90 => exact fun _ _ _ h => h
              case hy90 =>
                refine Or.inl ⟨by rfl, ?_⟩
                (intro wq hSw; (try dsimp only at hSw); go_simp; try with_reducible rfl)
              (try simp only [Act.put, List.setIfInBounds_toArray, List.set_cons_zero, List.set_cons_succ])
              refine wpAnyH_done (by kernel_rfl) ?_ _
              refine NoPanic.normal ?_
              have hbx := hbd.trans (hHeld.mono hw)
              have KG := jget_any (d := d) hjx ok2 (gk.below hbx)
              rw [show getP cur2 m = none from hget2] at KG
              have KG := hid KG
              go_wp2_with fail
              refine KG.out.mono ?_
              rintro e wy ⟨D, kk, r, rfl, hr, hrd, hby⟩
              obtain rfl : [] = r := hr
              go_wp2_with fail
              go_roundw
              case rel => exact ⟨k + 1, hist2, cur2, false, wl, by omega, by go_num, rfl, rfl, HL.out, ok2, hget2, hjx.below hby, below_step hbx hby⟩
              case measure => simp [RowKit.intOf]; omega
            · have HP := hid KP
              clear KP
              go_upto_region 12 with fail
              refine wp_region_noPanic ?_
              refine wp_region_held_drew (S := (fun W => Below w1.heap.size wr.drew W)) (by kernel_rfl) ?_ (fun hHeld => ?_)
              · exact (Below.refl _ _).drew
              refine wpAnyH_take (i := 0) (oi := ?oi91) (v := ?v91) ?hi91 (by kernel_rfl) (by kernel_rfl) (by kernel_rfl) ?hQ91 ?hy91 (by assumption) ?hrest91
              case hi91 => (simp only [List.getElem?_toArray, List.getElem?_cons_zero]; try rfl)
              case hQ91 => exact fun _ _ _ h => h
              case hy91 =>
                refine Or.inl ⟨by rfl, ?_⟩
                (intro wq hSw; (try dsimp only at hSw); go_simp; try with_reducible rfl)
              (try simp only [Act.put, List.setIfInBounds_toArray, List.set_cons_zero, List.set_cons_succ])
              refine wpAnyH_take (i := 1) (oi := ?oi92) (v := ?v92) ?hi92 (by kernel_rfl) (by kernel_rfl) (by kernel_rfl) ?hQ92 ?hy92 (by assumption) ?hrest92
              case hi92 => (simp only [List.getElem?_toArray, List.getElem?_cons_succ, List.getElem?_cons_zero]; try rfl)
              case hQ92 => exact fun _ _ _ h => h
              case hy92 =>
                refine Or.inl ⟨by rfl, ?_⟩
                (intro wq hSw; (try dsimp only at hSw); go_simp; try with_reducible rfl)
              (try simp only [Act.put, List.setIfInBounds_toArray, List.set_cons_zero, List.set_cons_succ])
              refine wpAnyH_take (i := 2) (oi := ?oi93) (v := ?v93) ?hi93 (by kernel_rfl) (by kernel_rfl) (by kernel_rfl) ?hQ93 ?hy93 (by assumption) ?hrest93
              case hi93 => (simp only [List.getElem?_toArray, List.getElem?_cons_succ, List.getElem?_cons_zero]; try rfl)
              case hQ93 => exact fun _ _ _ h => h
              case hy93 =>
                refine Or.inl ⟨by rfl, ?_⟩
                (intro wq hSw; (try dsimp only at hSw); go_simp; try with_reducible rfl)
              (try simp only [Act.put, List.setIfInBounds_toArray, List.set_cons_zero, List.set_cons_succ])
              refine wpAnyH_take (i := 3) (oi := ?oi94) (v := ?v94) ?hi94 (by kernel_rfl) (by kernel_rfl) (by kernel_rfl) ?hQ94 ?hy94 (by assumption) ?hrest94
              case hi94 => (simp only [List.getElem?_toArray, List.getElem?_cons_succ, List.getElem?_cons_zero]; try rfl)
              case hQ94 => exact fun _ _ _ h => h
              case hy94 =>
                refine Or.inl ⟨by rfl, ?_⟩
                (intro wq hSw; (try dsimp only at hSw); go_simp; try with_reducible rfl)
              (try simp only [Act.put, List.setIfInBounds_toArray, List.set_cons_zero, List.set_cons_succ])
              refine wpAnyH_take (i := 4) (oi := ?oi95) (v := ?v95) ?hi95 (by kernel_rfl) (by kernel_rfl) (by kernel_rfl) ?hQ95 ?hy95 (by assumption) ?hrest95
              case hi95 => (simp only [List.getElem?_toArray, List.getElem?_cons_succ, List.getElem?_cons_zero]; try rfl)
              case hQ95 => exact fun _ _ _ h => h
              case hy95 =>
                refine Or.inl ⟨by rfl, ?_⟩
                (intro wq hSw; (try dsimp only at hSw); go_simp; try with_reducible rfl)
              (try simp only [Act.put, List.setIfInBounds_toArray, List.set_cons_zero, List.set_cons_succ])
              refine wpAnyH_take (i := 5) (oi := ?oi96) (v := ?v96) ?hi96 (by kernel_rfl) (by kernel_rfl) (by kernel_rfl) ?hQ96 ?hy96 (by assumption) ?hrest96
              case hi96 => (simp only [List.getElem?_toArray, List.getElem?_cons_succ, List.getElem?_cons_zero]; try rfl)
              case hQ96 => exact fun _ _ _ h => h
              case hy96 =>
                refine Or.inl ⟨by rfl, ?_⟩
                (intro wq hSw; (try dsimp only at hSw); go_simp; try with_reducible rfl)
              (try simp only [Act.put, List.setIfInBounds_toArray, List.set_cons_zero, List.set_cons_succ])
              refine wpAnyH_take (i := 6) (oi := ?oi97) (v := ?v97) ?hi97 (by kernel_rfl) (by kernel_rfl) (by kernel_rfl) ?hQ97 ?hy97 (by assumption) ?hrest97
              case hi97 => (simp only [List.getElem?_toArray, List.getElem?_cons_succ, List.getElem?_cons_zero]; try rfl)
              case hQ97 => exact fun _ _ _ h => h
              case hy97 =>
                refine Or.inl ⟨by rfl, ?_⟩
                (intro wq hSw; (try dsimp only at hSw); go_simp; try with_reducible rfl)
              (try simp only [Act.put, List.setIfInBounds_toArray, List.set_cons_zero, List.set_cons_succ])
              refine wpAnyH_take (i := 7) (oi := ?oi98) (v := ?v98) ?hi98 (by kernel_rfl) (by kernel_rfl) (by kernel_rfl) ?hQ98 ?hy98 (by assumption) ?hrest98
              case hi98 => (simp only [List.getElem?_toArray, List.getElem?_cons_succ, List.getElem?_cons_zero]; try rfl)
              case hQ98 => exact fun _ _ _ h => h
              case hy98 =>
                refine Or.inl ⟨by rfl, ?_⟩
                (intro wq hSw; (try dsimp only at hSw); go_simp; try with_reducible rfl)
              (try simp only [Act.put, List.setIfInBounds_toArray, List.set_cons_zero, List.set_cons_succ])
              refine wpAnyH_take (i := 8) (oi := ?oi99) (v := ?v99) ?hi99 (by kernel_rfl) (by kernel_rfl) (by kernel_rfl) ?hQ99 ?hy99 (by assumption) ?hrest99
              case hi99 => (simp only [List.getElem?_toArray, List.getElem?_cons_succ, List.getElem?_cons_zero]; try rfl)
              case hQ99 => exact fun _ _ _ h => h
              case hy99 =>
                refine Or.inl ⟨by rfl, ?_⟩
                (intro wq hSw; (try dsimp only at hSw); go_simp; try with_reducible rfl)
              (try simp only [Act.put, List.setIfInBounds_toArray, List.set_cons_zero, List.set_cons_succ])
              refine wpAnyH_take (i := 9) (oi := ?oi100) (v := ?v100) ?hi100 (by kernel_rfl) (by kernel_rfl) (by kernel_rfl) ?hQ100 ?hy100 (by assumption) ?hrest100
              case hi100 => (simp only [List.getElem?_toArray, List.getElem?_cons_succ, List.getElem?_cons_zero]; try rfl)
              case hQ100 => exact fun _ _ _ h => h
              case hy100 =>
                refine Or.inl ⟨by rfl, ?_⟩
                (intro wq hSw; (try dsimp only at hSw); go_simp; try with_reducible rfl)
              (try simp only [Act.put, List.setIfInBounds_toArray, List.set_cons_zero, List.set_cons_succ])
              refine wpAnyH_take (i := 10) (oi := ?oi101) (v := ?v101) ?hi101 (by kernel_rfl) (by kernel_rfl) (by kernel_rfl) ?hQ101 ?hy101 (by assumption) ?hrest101
              case hi101 => (simp only [List.getElem?_toArray, List.getElem?_cons_succ, List.getElem?_cons_zero]; try rfl)
              case hQ101 => exact fun _ _ _ h => h
              case hy101 =>
                refine Or.inl ⟨by rfl, ?_⟩
                (intro wq hSw; (try dsimp only at hSw); go_simp; try with_reducible rfl)
              (try simp only [Act.put, List.setIfInBounds_toArray, List.set_cons_zero, List.set_cons_succ])
              refine wpAnyH_ready (rs := [11]) (by kernel_rfl) (by simp) ?_
              refine AllReadyH.cons (o := ?oi102) ?hi102 (fun K hK => ?hstep102) AllReadyH.nil
              case hi102 => (simp only [List.getElem?_toArray, List.getElem?_cons_succ, List.getElem?_cons_zero]; try rfl)
              go_simp
              (refine HP.out.mono ?_; rintro e wx ⟨rfl, hjx, hbx⟩)
              refine hK.out _ _ ?_ (fun hHeld => ?_)
              · exact hHeld.trans hbx
              clear hK K
              (try simp only [Act.put, List.setIfInBounds_toArray, List.set_cons_zero, List.set_cons_succ])
              refine wpAnyH_take (i := 12) (oi := ?oi103) (v := ?v103) ?hi103 (by kernel_rfl) (by kernel_rfl) (by kernel_rfl) ?hQ103 ?hy103 (by assumption) ?hrest103
              case hi103 => (simp only [List.getElem?_toArray, List.getElem?_cons_succ, List.getElem?_cons_zero]; try rfl)
              case hQ103 => exact fun _ _ _ h => h
              case hy103 =>
                refine Or.inl ⟨by rfl, ?_⟩
                (intro wq hSw; (try dsimp only at hSw); go_simp; try with_reducible rfl)
              (try simp only [Act.put, List.setIfInBounds_toArray, List.set_cons_zero, List.set_cons_succ])
              refine wpAnyH_take (i := 13) (oi := ?oi104) (v := ?v104) ?hi104 (by kernel_rfl) (by kernel_rfl) (by kernel_rfl) ?hQ104 ?hy104 (by assumption) ?hrest104
              case hi104 => (simp only [List.getElem?_toArray, List.getElem?_cons_succ, List.getElem?_cons_zero]; try rfl)
              case hQ104 => exact fun _ _ _ h => h
              case hy104 =>
                refine Or.inl ⟨by rfl, ?_⟩
                (intro wq hSw; (try dsimp only at hSw); go_simp; try with_reducible rfl)
              (try simp only [Act.put, List.setIfInBounds_toArray, List.set_cons_zero, List.set_cons_succ])
              refine wpAnyH_take (i := 14) (oi := ?oi105) (v := undef) ?hi105 (by kernel_rfl) (by kernel_rfl) (by kernel_rfl) ?hQ105 ?hy105 (by assumption) ?hrest105
              case hi105 => (simp only [List.getElem?_toArray, List.getElem?_cons_succ, List.getElem?_cons_zero]; try rfl)
              case hQ105 => exact fun _ _ _ h => h
              case hy105 => exact Or.inr ⟨by rfl, rfl⟩
              (try simp only [Act.put, List.setIfInBounds_toArray, List.set_cons_zero, List.set_cons_succ])
              refine wpAnyH_take (i := 15) (oi := ?oi106) (v := ?v106) ?hi106 (by kernel_rfl) (by kernel_rfl) (by kernel_rfl) ?hQ106 ?hy106 (by assumption) ?hrest106
              case hi106 => (simp only [List.getElem?_toArray, List.getElem?_cons_succ, List.getElem?_cons_zero]; try rfl)
              case hQ106 => exact fun _ _ _ h => h
              case hy106 =>
                refine Or.inl ⟨by rfl, ?_⟩
                (intro wq hSw; (try dsimp only at hSw); go_simp; try with_reducible rfl)
              (try simp only [Act.put, List.setIfInBounds_toArray, List.set_cons_zero, List.set_cons_succ])
              refine wpAnyH_done (by kernel_rfl) ?_ _
              refine NoPanic.normal ?_
              have hbx := hbd.trans (hHeld.mono hw)
              have KG := jget_any (d := d) hjx ok2 (gk.below hbx)
              rw [show getP cur2 m = some wl from hget2] at KG
              have KG := hid KG
              go_wp2_with fail
              refine KG.out.mono ?_
              rintro e wy ⟨D, kk, r, rfl, hr, hrd, hby⟩
              obtain rfl : wl = r := hr
              have cvy := conv_bs (P := Try.prog) Try.underlying30 Try.underlying5 Try.underlying9 hrd kk
              have se := str_eq wl
              go_wp2_with fail
              go_roundw
              case rel => exact ⟨k + 1, hist2, cur2, true, wl, by omega, by go_num, rfl, rfl, HL.out, ok2, hget2, hjx.below hby, below_step hbx hby⟩
              case measure => simp [RowKit.intOf]; omega
        · have q1 : (z == 0) = false := by simpa using ez
          clear KP hpc hpi gi1 gi2
          have HL := HLL
          obtain ⟨hist2, eh⟩ : ∃ H, hist ++ [cur] = H := ⟨_, rfl⟩
          obtain ⟨cur2, ec⟩ : ∃ H, DD = H := ⟨_, rfl⟩
          have ok2 := hkd
          rw [ec] at ok2 KD gd1 gd2
          rw [eh] at HL KD
          clear eh ec
          by_cases ho : x.k = m
          · obtain rfl : own = true := by rw [← HOWN.out]; exact decide_eq_true ho
            have hget2 := gd1 ho
            clear gd1 gd2 ho
            cases b
            · go_wp2_with fail
              refine KD.out.mono ?_
              rintro e wx ⟨⟨v, rfl⟩, hjx, hbx0⟩
              have hbx := hbd.trans (hbx0.mono hw)
              have KG := jget_any (d := d) hjx ok2 (gk.below hbx)
              rw [show getP cur2 m = none from hget2] at KG
              have KG := hid KG
              go_wp2_with fail
              refine KG.out.mono ?_
              rintro e wy ⟨D, kk, r, rfl, hr, hrd, hby⟩
              obtain rfl : [] = r := hr
              go_wp2_with fail
              go_roundw
              case rel => exact ⟨k + 1, hist2, cur2, false, wl, by omega, by go_num, rfl, rfl, HL.out, ok2, hget2, hjx.below hby, below_step hbx hby⟩
              case measure => simp [RowKit.intOf]; omega
            · go_wp2_with fail
              refine KD.out.mono ?_
              rintro e wx ⟨⟨v, rfl⟩, hjx, hbx0⟩
              have hbx := hbd.trans (hbx0.mono hw)
              have KG := jget_any (d := d) hjx ok2 (gk.below hbx)
              rw [show getP cur2 m = none from hget2] at KG
              have KG := hid KG
              go_wp2_with fail
              refine KG.out.mono ?_
              rintro e wy ⟨D, kk, r, rfl, hr, hrd, hby⟩
              obtain rfl : [] = r := hr
              go_wp2_with fail
              go_roundw
              case rel => exact ⟨k + 1, hist2, cur2, false, wl, by omega, by go_num, rfl, rfl, HL.out, ok2, hget2, hjx.below hby, below_step hbx hby⟩
              case measure => simp [RowKit.intOf]; omega
          · obtain rfl : own = false := by rw [← HOWN.out]; exact decide_eq_false ho
            have hget2 := (gd2 ho).trans hget
            clear gd1 gd2 ho
            cases b
            · go_wp2_with fail
              refine KD.out.mono ?_
              rintro e wx ⟨⟨v, rfl⟩, hjx, hbx0⟩
              have hbx := hbd.trans (hbx0.mono hw)
              have KG := jget_any (d := d) hjx ok2 (gk.below hbx)
              rw [show getP cur2 m = none from hget2] at KG
              have KG := hid KG
              go_wp2_with fail
              refine KG.out.mono ?_
              rintro e wy ⟨D, kk, r, rfl, hr, hrd, hby⟩
              obtain rfl : [] = r := hr
              go_wp2_with fail
              go_roundw
              case rel => exact ⟨k + 1, hist2, cur2, false, wl, by omega, by go_num, rfl, rfl, HL.out, ok2, hget2, hjx.below hby, below_step hbx hby⟩
              case measure => simp [RowKit.intOf]; omega
            · go_wp2_with fail
              refine KD.out.mono ?_
              rintro e wx ⟨⟨v, rfl⟩, hjx, hbx0⟩
              have hbx := hbd.trans (hbx0.mono hw)
              have KG := jget_any (d := d) hjx ok2 (gk.below hbx)
              rw [show getP cur2 m = some wl from hget2] at KG
              have KG := hid KG
              go_wp2_with fail
              refine KG.out.mono ?_
              rintro e wy ⟨D, kk, r, rfl, hr, hrd, hby⟩
              obtain rfl : wl = r := hr
              have cvy := conv_bs (P := Try.prog) Try.underlying30 Try.underlying5 Try.underlying9 hrd kk
              have se := str_eq wl
              go_wp2_with fail
              go_roundw
              case rel => exact ⟨k + 1, hist2, cur2, true, wl, by omega, by go_num, rfl, rfl, HL.out, ok2, hget2, hjx.below hby, below_step hbx hby⟩
              case measure => simp [RowKit.intOf]; omega
      · go_wp2_with fail
        go_ret
        exact ⟨rfl, hb⟩
end Go.Proofs.Ytlekoeddcjjjdaa
