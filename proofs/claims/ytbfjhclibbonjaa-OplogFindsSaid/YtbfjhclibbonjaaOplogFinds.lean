/-
  The walk of the law OplogFinds.
-/
import Derived.Test.YtbfjhclibbonjaaLogI
namespace Go.Proofs.Ytbfjhclibbonjaa
open Go.RowKit Go.Cov
set_option maxRecDepth 100000 in
set_option maxHeartbeats 12800000 in
theorem finds_law {s : Int} {A : Option Addr} {c : Nat} {xs : List En} {L : EL} {w : World} (h : Lg w A c xs L) (x : En) (hx : Sl w x.val x.op) (y : En) (hy : Sl w y.val y.op) :
    Calls Try.prog 4 #[.agg #[.int .i64 s, .slice A xs.length c], x.agg, y.agg] w fun e w' => e = .returned (.bool true) ∧ Below w.heap.size w w' := by
  obtain ⟨w1, hw1⟩ : ∃ w1, w.alloc (.cells #[.int .i64 s, .slice A xs.length c] 26) = w1 := ⟨_, rfl⟩
  obtain ⟨w2, hw2⟩ : ∃ w2, w1.alloc (.cells #[.int .i64 x.c, .int .i64 x.r, .slice x.A x.op.length x.cap] 32) = w2 := ⟨_, rfl⟩
  obtain ⟨w3, hw3⟩ : ∃ w3, w2.alloc (.cells #[.int .i64 y.c, .int .i64 y.r, .slice y.A y.op.length y.cap] 32) = w3 := ⟨_, rfl⟩
  have b1 : Below w.heap.size w w1 := by rw [← hw1]; exact below_alloc _ _
  have b12 : Below w1.heap.size w1 w2 := by rw [← hw2]; exact below_alloc _ _
  have b23 : Below w2.heap.size w2 w3 := by rw [← hw3]; exact below_alloc _ _
  have b3 : Below w.heap.size w w3 := below_step (below_step b1 b12) b23
  have n1 : w1.heap.size = w.heap.size + 1 := by rw [← hw1]; exact size_run
  have n2 : w2.heap.size = w.heap.size + 2 := by rw [← hw2, size_run, n1]
  have U := hid (show Var2 w3 w.heap.size (.int .i64 s) (.slice A xs.length c) from by
    have := Var2.new w (.int .i64 s) (.slice A xs.length c) 26
    rw [hw1] at this
    exact (this.on b12).on b23)
  have X := hid (show Var3 w3 (w.heap.size + 1) (.int .i64 x.c) (.int .i64 x.r) (.slice x.A x.op.length x.cap) from by
    have := Var3.new w1 (.int .i64 x.c) (.int .i64 x.r) (.slice x.A x.op.length x.cap) 32
    rw [hw2, n1] at this
    exact this.on b23)
  have Y := hid (show Var3 w3 (w.heap.size + 2) (.int .i64 y.c) (.int .i64 y.r) (.slice y.A y.op.length y.cap) from by
    have := Var3.new w2 (.int .i64 y.c) (.int .i64 y.r) (.slice y.A y.op.length y.cap) 32
    rw [hw3, n2] at this
    exact this)
  have H := hid (fun W (hW : Below w.heap.size w W) => h.below hW)
  have HX := hid (fun W (hW : Below w.heap.size w W) => hx.keep (fun p u hp => cell_on hW hp))
  have HY := hid (fun W (hW : Below w.heap.size w W) => hy.keep (fun p u hp => cell_on hW hp))
  have KF := hid (fun W (hW : Below w.heap.size w W) => from_any (s := s) (h.below hW) s)
  have KE := hid (fun W (hW : Below w.heap.size w W) => end_any (s := s) (h.below hW))
  have kx := fun W (hW : Below w.heap.size w W) => append_any (s := s) (h.below hW) x (HX.out W hW)
  have ky := fun W (hW : Below w.heap.size w W) => append_any (s := s) (h.below hW) y (HY.out W hW)
  obtain ⟨s1, M1, e1, hA1, hS1⟩ := app_split s L x.data
  obtain ⟨s2, M2, e2, hA2, hS2⟩ := app_split s L y.data
  rw [hA1] at kx
  rw [hA2] at ky
  have KX := hid kx
  have KY := hid ky
  have hlen := h.len
  have HL := hid hlen
  clear kx ky hA1 hA2 h hx hy hlen
  have hg : xs.length ≤ 1000 ∨ 1000 < xs.length := by omega
  go_enter Try.func4, Try.ntmps4
  unfold En.agg
  go_wp2_with fail
  refine (head_any w3).mono ?_
  rintro e w4 ⟨rfl, hb4⟩
  obtain ⟨u0, u1, _⟩ := U.out.on hb4
  have b4 := below_step b3 hb4
  go_wp2_with fail
  refine great_any.mono ?_
  rintro e w5 ⟨rfl, hb5⟩
  have b45 := below_step hb4 hb5
  have b5 := below_step b4 hb5
  obtain ⟨u0, u1, _⟩ := U.out.on b45
  rcases hg with hg | hg
  · have g1 : ¬ (1000 : Int) < xs.length := by omega
    go_wp2_with fail
    refine (KF.out _ b5).mono ?_
    rintro e w6 ⟨C6, q6, us, rfl, hus, hb6⟩
    have b46 := below_step b45 hb6
    have b6 := below_step b5 hb6
    obtain ⟨u0, u1, _⟩ := U.out.on b46
    obtain ⟨x0, x1, x2, _⟩ := X.out.on b46
    go_wp2_with fail
    refine (KX.out _ b6).mono ?_
    rintro e w7 ⟨C7, q7, vs, rfl, hvs, _, hb7⟩
    have hb8 := below_step hb7 (below_alloc w7 (.cells #[.int .i64 s1, .slice C7 vs.length q7] 26))
    have P := hid (Var2.new w7 (.int .i64 s1) (.slice C7 vs.length q7) 26)
    have hvs8 := hvs.below (below_alloc w7 (.cells #[.int .i64 s1, .slice C7 vs.length q7] 26))
    obtain ⟨w8, hw8⟩ : ∃ w8, w7.alloc (.cells #[.int .i64 s1, .slice C7 vs.length q7] 26) = w8 := ⟨_, rfl⟩
    rw [hw8] at hb8 P hvs8
    have b48 := below_step b46 hb8
    have b8 := below_step b6 hb8
    obtain ⟨u0, u1, _⟩ := U.out.on b48
    obtain ⟨y0, y1, y2, _⟩ := Y.out.on b48
    clear hvs
    go_wp2_with fail
    refine (KY.out _ b8).mono ?_
    rintro e w9 ⟨C9, q9, zs, rfl, hzs, _, hb9⟩
    have hb10 := below_step hb9 (below_alloc w9 (.cells #[.int .i64 s2, .slice C9 zs.length q9] 26))
    have Q := hid (Var2.new w9 (.int .i64 s2) (.slice C9 zs.length q9) 26)
    have hzs10 := hzs.below (below_alloc w9 (.cells #[.int .i64 s2, .slice C9 zs.length q9] 26))
    obtain ⟨w10, hw10⟩ : ∃ w10, w9.alloc (.cells #[.int .i64 s2, .slice C9 zs.length q9] 26) = w10 := ⟨_, rfl⟩
    rw [hw10] at hb10 Q hzs10
    have b410 := below_step b48 hb10
    have b10 := below_step b8 hb10
    have hvs10 := hvs8.below hb10
    have P10 := hid (P.out.on hb10)
    have hus10 := (hus.below hb8).below hb10
    clear hzs hvs8 hus
    rcases hS1 with ⟨p1, he1, hs1, hM1, hr, hr1⟩ | ⟨p1, p2⟩
    · have hs1 := hs1.symm
      subst he1 hs1 hM1
      rcases hS2 with ⟨p2, he2, hs2, hM2, _, hr2⟩ | ⟨p2, p3⟩
      · have hs2 := hs2.symm
        subst he2 hs2 hM2
        have hes : endL s L = s + L.length := by rw [endL, if_pos hr]
        have hr3 := rightL_iff.1 hr
        have EX := hid (fun W (hW : Below w10.heap.size w10 W) => end_any (s := s) (hvs10.below hW))
        have AX := hid (fun W (hW : Below w10.heap.size w10 W) => att_any (s := s) (hvs10.below hW) (s + L.length + 1))
        have FX := hid (fun W (hW : Below w10.heap.size w10 W) => find_any (s := s) (hvs10.below hW) x.c x.r)
        have EY := hid (fun W (hW : Below w10.heap.size w10 W) => end_any (s := s) (hzs10.below hW))
        have AY := hid (fun W (hW : Below w10.heap.size w10 W) => att_any (s := s) (hzs10.below hW) (s + L.length + 1))
        rw [end_app hr1] at EX
        rw [atE_app hr1] at AX
        rw [show findL s (L ++ [x.data]) x.c x.r = s + L.length + 1 from find_app hr1] at FX
        rw [end_app hr2] at EY
        rw [atE_app hr2] at AY
        rw [hes] at KE
        unfold En.agg at AX AY
        have a1 : IntKind.i64.wrap (s + (L.length : Int) + 1) = s + (L.length : Int) + 1 := wrap_of _ (by omega) (by omega)
        obtain ⟨T, hT⟩ : ∃ T, s + (L.length : Int) = T := ⟨_, rfl⟩
        rw [hT] at EX AX FX EY AY KE a1
        have q0 := fun W (hW : Below w10.heap.size w10 W) => cell_on hW P10.out.1
        have q1 := fun W (hW : Below w10.heap.size w10 W) => cell_on hW P10.out.2.1
        have q2 := fun W (hW : Below w10.heap.size w10 W) => cell_on hW Q.out.1
        have q3 := fun W (hW : Below w10.heap.size w10 W) => cell_on hW Q.out.2.1
        clear hr hr1 hr2 hr3 hes hT p1 p2
        go_upto_region 9 with fail
        go_cut [14, 15] (fun s14 s15 wx => ∃ (b : Nat) (z : En), s14 = .pointer (some ⟨b, 0, none⟩) ∧ s15 = .bool true ∧ (wx.cell? ⟨b, 0, none⟩ = some (.int .i64 z.c) ∧ wx.cell? ⟨b, 1, none⟩ = some (.int .i64 z.r) ∧ wx.cell? ⟨b, 2, none⟩ = some (.slice z.A z.op.length z.cap)) ∧ z.data = x.data ∧ Sl wx z.val z.op ∧ Below w10.heap.size w10 wx)
        case first =>
          refine wp_region_noPanic ?_
          refine wp_region_held_drew (S := (fun W => Below w10.heap.size w10 W)) (by kernel_rfl) ?_ (fun hHeld => ?_)
          · exact (Below.refl _ _).drew
          refine wpAnyH_take (i := 0) (oi := ?oi1) (v := ?v1) ?hi1 (by kernel_rfl) (by kernel_rfl) (by kernel_rfl) ?hQ1 ?hy1 (by assumption) ?hrest1
          case hi1 => (simp only [List.getElem?_toArray, List.getElem?_cons_zero]; try rfl)
          case hQ1 => exact fun _ _ _ h => h
          case hy1 =>
            refine Or.inl ⟨by rfl, ?_⟩
            (intro wq hSw; (try dsimp only at hSw); go_simp; try with_reducible rfl)
          (try simp only [Act.put, List.setIfInBounds_toArray, List.set_cons_zero, List.set_cons_succ])
          refine wpAnyH_take (i := 1) (oi := ?oi2) (v := ?v2) ?hi2 (by kernel_rfl) (by kernel_rfl) (by kernel_rfl) ?hQ2 ?hy2 (by assumption) ?hrest2
          case hi2 => (simp only [List.getElem?_toArray, List.getElem?_cons_succ, List.getElem?_cons_zero]; try rfl)
          case hQ2 => exact fun _ _ _ h => h
          case hy2 =>
            refine Or.inl ⟨by rfl, ?_⟩
            (intro wq hSw; (try dsimp only at hSw); go_simp; try with_reducible rfl)
          (try simp only [Act.put, List.setIfInBounds_toArray, List.set_cons_zero, List.set_cons_succ])
          refine wpAnyH_ready (rs := [2, 7]) (by kernel_rfl) (by simp) ?_
          refine AllReadyH.cons (o := ?oi3) ?hi3 (fun K hK => ?hstep3) ?hmore3
          case hi3 => (simp only [List.getElem?_toArray, List.getElem?_cons_succ, List.getElem?_cons_zero]; try rfl)
          case hstep3 =>
            go_simp
            (refine (EX.out _ hHeld).mono ?_; rintro e wx ⟨rfl, hbx⟩; (try have n0 := cell_on hbx n0); (try have f0 := froz_on hbx nz f0); (try have n1 := cell_on hbx n1); (try have f1 := froz_on hbx nz f1); (try have n2 := cell_on hbx n2); (try have f2 := froz_on hbx nz f2); (try have nz := Nat.lt_of_lt_of_le nz hbx.size))
            refine hK.out _ _ ?_ (fun hHeld => ?_)
            · exact below_step hHeld hbx
            clear hK K
            (try simp only [Act.put, List.setIfInBounds_toArray, List.set_cons_zero, List.set_cons_succ])
            refine wpAnyH_ready (rs := [3, 7]) (by kernel_rfl) (by simp) ?_
            refine AllReadyH.cons (o := ?oi4) ?hi4 (fun K hK => ?hstep4) ?hmore4
            case hi4 => (simp only [List.getElem?_toArray, List.getElem?_cons_succ, List.getElem?_cons_zero]; try rfl)
            case hstep4 =>
              go_simp
              (refine (AX.out _ hHeld).mono ?_; rintro e wx ⟨z, rfl, hzd, hzs, hbx⟩; (try have n0 := cell_on hbx n0); (try have f0 := froz_on hbx nz f0); (try have n1 := cell_on hbx n1); (try have f1 := froz_on hbx nz f1); (try have n2 := cell_on hbx n2); (try have f2 := froz_on hbx nz f2); (try have nz := Nat.lt_of_lt_of_le nz hbx.size))
              refine hK.out _ _ ?_ (fun hHeld => ?_)
              · exact below_step hHeld hbx
              clear hK K
              (try simp only [Act.put, List.setIfInBounds_toArray, List.set_cons_zero, List.set_cons_succ])
              refine wpAnyH_take (i := 4) (oi := ?oi5) (v := ?v5) ?hi5 (by kernel_rfl) (by kernel_rfl) (by kernel_rfl) ?hQ5 ?hy5 (by assumption) ?hrest5
              case hi5 => (simp only [List.getElem?_toArray, List.getElem?_cons_succ, List.getElem?_cons_zero]; try rfl)
              case hQ5 => exact fun _ _ _ h => h
              case hy5 =>
                refine Or.inl ⟨by rfl, ?_⟩
                (intro wq hSw; (try dsimp only at hSw); go_simp; try with_reducible rfl)
              (try simp only [Act.put, List.setIfInBounds_toArray, List.set_cons_zero, List.set_cons_succ])
              refine wpAnyH_take (i := 5) (oi := ?oi6) (v := ?v6) ?hi6 (by kernel_rfl) (by kernel_rfl) (by kernel_rfl) ?hQ6 ?hy6 (by assumption) ?hrest6
              case hi6 => (simp only [List.getElem?_toArray, List.getElem?_cons_succ, List.getElem?_cons_zero]; try rfl)
              case hQ6 => exact fun _ _ _ h => h
              case hy6 =>
                refine Or.inl ⟨by rfl, ?_⟩
                (intro wq hSw; (try dsimp only at hSw); go_simp; try with_reducible rfl)
              (try simp only [Act.put, List.setIfInBounds_toArray, List.set_cons_zero, List.set_cons_succ])
              refine wpAnyH_take (i := 6) (oi := ?oi7) (v := ?v7) ?hi7 (by kernel_rfl) (by kernel_rfl) (by kernel_rfl) ?hQ7 ?hy7 (by assumption) ?hrest7
              case hi7 => (simp only [List.getElem?_toArray, List.getElem?_cons_succ, List.getElem?_cons_zero]; try rfl)
              case hQ7 => exact fun _ _ _ h => h
              case hy7 =>
                refine Or.inl ⟨by rfl, ?_⟩
                (intro wq hSw; (try dsimp only at hSw); go_simp; try with_reducible rfl)
              (try simp only [Act.put, List.setIfInBounds_toArray, List.set_cons_zero, List.set_cons_succ])
              refine wpAnyH_ready (rs := [7]) (by kernel_rfl) (by simp) ?_
              refine AllReadyH.cons (o := ?oi8) ?hi8 (fun K hK => ?hstep8) AllReadyH.nil
              case hi8 => (simp only [List.getElem?_toArray, List.getElem?_cons_succ, List.getElem?_cons_zero]; try rfl)
              go_simp
              (have hvb := hHeld.size; (first | refine newvar_Kd ?_ | refine newvar_K ?_); intro wx hbx nv nf nz; have n0 := nv 0 _ rfl; have n1 := nv 1 _ rfl; have n2 := nv 2 _ rfl; have f0 := nf 0; have f1 := nf 1; have f2 := nf 2; clear nv nf; (try have hzs := hzs.keep (fun p u hp => cell_on hbx hp)))
              refine hK.out _ _ ?_ (fun hHeld => ?_)
              · exact below_step hHeld hbx
              clear hK K
              (try simp only [Act.put, List.setIfInBounds_toArray, List.set_cons_zero, List.set_cons_succ])
              refine wpAnyH_ready (rs := [8]) (by kernel_rfl) (by simp) ?_
              refine AllReadyH.cons (o := ?oi9) ?hi9 (fun K hK => ?hstep9) AllReadyH.nil
              case hi9 => (simp only [List.getElem?_toArray, List.getElem?_cons_succ, List.getElem?_cons_zero]; try rfl)
              go_simp
              (obtain ⟨z0, z1, z2⟩ := set3_cells n0 n1 n2 (.int .i64 z.c) (.int .i64 z.r) (.slice z.A z.op.length z.cap); have hzs2 := sl_set3 n0 n1 n2 hzs (.int .i64 z.c) (.int .i64 z.r) (.slice z.A z.op.length z.cap))
              refine hK.out _ _ ?_ (fun hHeld => ?_)
              · exact below_set3 hHeld hvb
              clear hK K
              (try simp only [Act.put, List.setIfInBounds_toArray, List.set_cons_zero, List.set_cons_succ])
              refine wpAnyH_take (i := 9) (oi := ?oi10) (v := ?v10) ?hi10 (by kernel_rfl) (by kernel_rfl) (by kernel_rfl) ?hQ10 ?hy10 (by assumption) ?hrest10
              case hi10 => (simp only [List.getElem?_toArray, List.getElem?_cons_succ, List.getElem?_cons_zero]; try rfl)
              case hQ10 => exact fun _ _ _ h => h
              case hy10 =>
                refine Or.inl ⟨by rfl, ?_⟩
                (intro wq hSw; (try dsimp only at hSw); go_simp; try with_reducible rfl)
              (try simp only [Act.put, List.setIfInBounds_toArray, List.set_cons_zero, List.set_cons_succ])
              refine wpAnyH_done (by kernel_rfl) ?_ _
              refine NoPanic.normal ?_
              (go_wp2_with fail; go_meet; exact ⟨_, z, rfl, rfl, ⟨z0, z1, z2⟩, hzd, hzs2, hHeld⟩)
            refine AllReadyH.cons (o := ?oi11) ?hi11 (fun K hK => ?hstep11) ?hmore11
            case hi11 => (simp only [List.getElem?_toArray, List.getElem?_cons_succ, List.getElem?_cons_zero]; try rfl)
            case hstep11 =>
              go_simp
              (have hvb := hHeld.size; (first | refine newvar_Kd ?_ | refine newvar_K ?_); intro wx hbx nv nf nz; have n0 := nv 0 _ rfl; have n1 := nv 1 _ rfl; have n2 := nv 2 _ rfl; have f0 := nf 0; have f1 := nf 1; have f2 := nf 2; clear nv nf; (try have hzs := hzs.keep (fun p u hp => cell_on hbx hp)))
              refine hK.out _ _ ?_ (fun hHeld => ?_)
              · exact below_step hHeld hbx
              clear hK K
              (try simp only [Act.put, List.setIfInBounds_toArray, List.set_cons_zero, List.set_cons_succ])
              refine wpAnyH_ready (rs := [3]) (by kernel_rfl) (by simp) ?_
              refine AllReadyH.cons (o := ?oi12) ?hi12 (fun K hK => ?hstep12) AllReadyH.nil
              case hi12 => (simp only [List.getElem?_toArray, List.getElem?_cons_succ, List.getElem?_cons_zero]; try rfl)
              go_simp
              (refine (AX.out _ hHeld).mono ?_; rintro e wx ⟨z, rfl, hzd, hzs, hbx⟩; (try have n0 := cell_on hbx n0); (try have f0 := froz_on hbx nz f0); (try have n1 := cell_on hbx n1); (try have f1 := froz_on hbx nz f1); (try have n2 := cell_on hbx n2); (try have f2 := froz_on hbx nz f2); (try have nz := Nat.lt_of_lt_of_le nz hbx.size))
              refine hK.out _ _ ?_ (fun hHeld => ?_)
              · exact below_step hHeld hbx
              clear hK K
              (try simp only [Act.put, List.setIfInBounds_toArray, List.set_cons_zero, List.set_cons_succ])
              refine wpAnyH_take (i := 4) (oi := ?oi13) (v := ?v13) ?hi13 (by kernel_rfl) (by kernel_rfl) (by kernel_rfl) ?hQ13 ?hy13 (by assumption) ?hrest13
              case hi13 => (simp only [List.getElem?_toArray, List.getElem?_cons_succ, List.getElem?_cons_zero]; try rfl)
              case hQ13 => exact fun _ _ _ h => h
              case hy13 =>
                refine Or.inl ⟨by rfl, ?_⟩
                (intro wq hSw; (try dsimp only at hSw); go_simp; try with_reducible rfl)
              (try simp only [Act.put, List.setIfInBounds_toArray, List.set_cons_zero, List.set_cons_succ])
              refine wpAnyH_take (i := 5) (oi := ?oi14) (v := ?v14) ?hi14 (by kernel_rfl) (by kernel_rfl) (by kernel_rfl) ?hQ14 ?hy14 (by assumption) ?hrest14
              case hi14 => (simp only [List.getElem?_toArray, List.getElem?_cons_succ, List.getElem?_cons_zero]; try rfl)
              case hQ14 => exact fun _ _ _ h => h
              case hy14 =>
                refine Or.inl ⟨by rfl, ?_⟩
                (intro wq hSw; (try dsimp only at hSw); go_simp; try with_reducible rfl)
              (try simp only [Act.put, List.setIfInBounds_toArray, List.set_cons_zero, List.set_cons_succ])
              refine wpAnyH_take (i := 6) (oi := ?oi15) (v := ?v15) ?hi15 (by kernel_rfl) (by kernel_rfl) (by kernel_rfl) ?hQ15 ?hy15 (by assumption) ?hrest15
              case hi15 => (simp only [List.getElem?_toArray, List.getElem?_cons_succ, List.getElem?_cons_zero]; try rfl)
              case hQ15 => exact fun _ _ _ h => h
              case hy15 =>
                refine Or.inl ⟨by rfl, ?_⟩
                (intro wq hSw; (try dsimp only at hSw); go_simp; try with_reducible rfl)
              (try simp only [Act.put, List.setIfInBounds_toArray, List.set_cons_zero, List.set_cons_succ])
              refine wpAnyH_ready (rs := [8]) (by kernel_rfl) (by simp) ?_
              refine AllReadyH.cons (o := ?oi16) ?hi16 (fun K hK => ?hstep16) AllReadyH.nil
              case hi16 => (simp only [List.getElem?_toArray, List.getElem?_cons_succ, List.getElem?_cons_zero]; try rfl)
              go_simp
              (obtain ⟨z0, z1, z2⟩ := set3_cells n0 n1 n2 (.int .i64 z.c) (.int .i64 z.r) (.slice z.A z.op.length z.cap); have hzs2 := sl_set3 n0 n1 n2 hzs (.int .i64 z.c) (.int .i64 z.r) (.slice z.A z.op.length z.cap))
              refine hK.out _ _ ?_ (fun hHeld => ?_)
              · exact below_set3 hHeld hvb
              clear hK K
              (try simp only [Act.put, List.setIfInBounds_toArray, List.set_cons_zero, List.set_cons_succ])
              refine wpAnyH_take (i := 9) (oi := ?oi17) (v := ?v17) ?hi17 (by kernel_rfl) (by kernel_rfl) (by kernel_rfl) ?hQ17 ?hy17 (by assumption) ?hrest17
              case hi17 => (simp only [List.getElem?_toArray, List.getElem?_cons_succ, List.getElem?_cons_zero]; try rfl)
              case hQ17 => exact fun _ _ _ h => h
              case hy17 =>
                refine Or.inl ⟨by rfl, ?_⟩
                (intro wq hSw; (try dsimp only at hSw); go_simp; try with_reducible rfl)
              (try simp only [Act.put, List.setIfInBounds_toArray, List.set_cons_zero, List.set_cons_succ])
              refine wpAnyH_done (by kernel_rfl) ?_ _
              refine NoPanic.normal ?_
              (go_wp2_with fail; go_meet; exact ⟨_, z, rfl, rfl, ⟨z0, z1, z2⟩, hzd, hzs2, hHeld⟩)
            exact AllReadyH.nil
          refine AllReadyH.cons (o := ?oi18) ?hi18 (fun K hK => ?hstep18) ?hmore18
          case hi18 => (simp only [List.getElem?_toArray, List.getElem?_cons_succ, List.getElem?_cons_zero]; try rfl)
          case hstep18 =>
            go_simp
            (have hvb := hHeld.size; (first | refine newvar_Kd ?_ | refine newvar_K ?_); intro wx hbx nv nf nz; have n0 := nv 0 _ rfl; have n1 := nv 1 _ rfl; have n2 := nv 2 _ rfl; have f0 := nf 0; have f1 := nf 1; have f2 := nf 2; clear nv nf; (try have hzs := hzs.keep (fun p u hp => cell_on hbx hp)))
            refine hK.out _ _ ?_ (fun hHeld => ?_)
            · exact below_step hHeld hbx
            clear hK K
            (try simp only [Act.put, List.setIfInBounds_toArray, List.set_cons_zero, List.set_cons_succ])
            refine wpAnyH_ready (rs := [2]) (by kernel_rfl) (by simp) ?_
            refine AllReadyH.cons (o := ?oi19) ?hi19 (fun K hK => ?hstep19) AllReadyH.nil
            case hi19 => (simp only [List.getElem?_toArray, List.getElem?_cons_succ, List.getElem?_cons_zero]; try rfl)
            go_simp
            (refine (EX.out _ hHeld).mono ?_; rintro e wx ⟨rfl, hbx⟩; (try have n0 := cell_on hbx n0); (try have f0 := froz_on hbx nz f0); (try have n1 := cell_on hbx n1); (try have f1 := froz_on hbx nz f1); (try have n2 := cell_on hbx n2); (try have f2 := froz_on hbx nz f2); (try have nz := Nat.lt_of_lt_of_le nz hbx.size))
            refine hK.out _ _ ?_ (fun hHeld => ?_)
            · exact below_step hHeld hbx
            clear hK K
            (try simp only [Act.put, List.setIfInBounds_toArray, List.set_cons_zero, List.set_cons_succ])
            refine wpAnyH_ready (rs := [3]) (by kernel_rfl) (by simp) ?_
            refine AllReadyH.cons (o := ?oi20) ?hi20 (fun K hK => ?hstep20) AllReadyH.nil
            case hi20 => (simp only [List.getElem?_toArray, List.getElem?_cons_succ, List.getElem?_cons_zero]; try rfl)
            go_simp
            (refine (AX.out _ hHeld).mono ?_; rintro e wx ⟨z, rfl, hzd, hzs, hbx⟩; (try have n0 := cell_on hbx n0); (try have f0 := froz_on hbx nz f0); (try have n1 := cell_on hbx n1); (try have f1 := froz_on hbx nz f1); (try have n2 := cell_on hbx n2); (try have f2 := froz_on hbx nz f2); (try have nz := Nat.lt_of_lt_of_le nz hbx.size))
            refine hK.out _ _ ?_ (fun hHeld => ?_)
            · exact below_step hHeld hbx
            clear hK K
            (try simp only [Act.put, List.setIfInBounds_toArray, List.set_cons_zero, List.set_cons_succ])
            refine wpAnyH_take (i := 4) (oi := ?oi21) (v := ?v21) ?hi21 (by kernel_rfl) (by kernel_rfl) (by kernel_rfl) ?hQ21 ?hy21 (by assumption) ?hrest21
            case hi21 => (simp only [List.getElem?_toArray, List.getElem?_cons_succ, List.getElem?_cons_zero]; try rfl)
            case hQ21 => exact fun _ _ _ h => h
            case hy21 =>
              refine Or.inl ⟨by rfl, ?_⟩
              (intro wq hSw; (try dsimp only at hSw); go_simp; try with_reducible rfl)
            (try simp only [Act.put, List.setIfInBounds_toArray, List.set_cons_zero, List.set_cons_succ])
            refine wpAnyH_take (i := 5) (oi := ?oi22) (v := ?v22) ?hi22 (by kernel_rfl) (by kernel_rfl) (by kernel_rfl) ?hQ22 ?hy22 (by assumption) ?hrest22
            case hi22 => (simp only [List.getElem?_toArray, List.getElem?_cons_succ, List.getElem?_cons_zero]; try rfl)
            case hQ22 => exact fun _ _ _ h => h
            case hy22 =>
              refine Or.inl ⟨by rfl, ?_⟩
              (intro wq hSw; (try dsimp only at hSw); go_simp; try with_reducible rfl)
            (try simp only [Act.put, List.setIfInBounds_toArray, List.set_cons_zero, List.set_cons_succ])
            refine wpAnyH_take (i := 6) (oi := ?oi23) (v := ?v23) ?hi23 (by kernel_rfl) (by kernel_rfl) (by kernel_rfl) ?hQ23 ?hy23 (by assumption) ?hrest23
            case hi23 => (simp only [List.getElem?_toArray, List.getElem?_cons_succ, List.getElem?_cons_zero]; try rfl)
            case hQ23 => exact fun _ _ _ h => h
            case hy23 =>
              refine Or.inl ⟨by rfl, ?_⟩
              (intro wq hSw; (try dsimp only at hSw); go_simp; try with_reducible rfl)
            (try simp only [Act.put, List.setIfInBounds_toArray, List.set_cons_zero, List.set_cons_succ])
            refine wpAnyH_ready (rs := [8]) (by kernel_rfl) (by simp) ?_
            refine AllReadyH.cons (o := ?oi24) ?hi24 (fun K hK => ?hstep24) AllReadyH.nil
            case hi24 => (simp only [List.getElem?_toArray, List.getElem?_cons_succ, List.getElem?_cons_zero]; try rfl)
            go_simp
            (obtain ⟨z0, z1, z2⟩ := set3_cells n0 n1 n2 (.int .i64 z.c) (.int .i64 z.r) (.slice z.A z.op.length z.cap); have hzs2 := sl_set3 n0 n1 n2 hzs (.int .i64 z.c) (.int .i64 z.r) (.slice z.A z.op.length z.cap))
            refine hK.out _ _ ?_ (fun hHeld => ?_)
            · exact below_set3 hHeld hvb
            clear hK K
            (try simp only [Act.put, List.setIfInBounds_toArray, List.set_cons_zero, List.set_cons_succ])
            refine wpAnyH_take (i := 9) (oi := ?oi25) (v := ?v25) ?hi25 (by kernel_rfl) (by kernel_rfl) (by kernel_rfl) ?hQ25 ?hy25 (by assumption) ?hrest25
            case hi25 => (simp only [List.getElem?_toArray, List.getElem?_cons_succ, List.getElem?_cons_zero]; try rfl)
            case hQ25 => exact fun _ _ _ h => h
            case hy25 =>
              refine Or.inl ⟨by rfl, ?_⟩
              (intro wq hSw; (try dsimp only at hSw); go_simp; try with_reducible rfl)
            (try simp only [Act.put, List.setIfInBounds_toArray, List.set_cons_zero, List.set_cons_succ])
            refine wpAnyH_done (by kernel_rfl) ?_ _
            refine NoPanic.normal ?_
            (go_wp2_with fail; go_meet; exact ⟨_, z, rfl, rfl, ⟨z0, z1, z2⟩, hzd, hzs2, hHeld⟩)
          exact AllReadyH.nil
        case rest =>
          obtain ⟨Xb, z, rfl, rfl, ⟨X0, X1, X2⟩, hzd, hzs, hbx⟩ := hcut
          rename World => wd
          have q2 := fun W (hW : Below wd.heap.size wd W) => q2 W (below_step hbx hW)
          have q3 := fun W (hW : Below wd.heap.size wd W) => q3 W (below_step hbx hW)
          have EYc := hid (fun W (hW : Below wd.heap.size wd W) => EY.out W (below_step hbx hW))
          have AYc := hid (fun W (hW : Below wd.heap.size wd W) => AY.out W (below_step hbx hW))
          go_upto_region 10 with fail
          go_cut [16, 17] (fun s16 s17 wx => ∃ (b : Nat) (z : En), s16 = .pointer (some ⟨b, 0, none⟩) ∧ s17 = .bool true ∧ (wx.cell? ⟨b, 0, none⟩ = some (.int .i64 z.c) ∧ wx.cell? ⟨b, 1, none⟩ = some (.int .i64 z.r) ∧ wx.cell? ⟨b, 2, none⟩ = some (.slice z.A z.op.length z.cap)) ∧ z.data = y.data ∧ Sl wx z.val z.op ∧ Below wd.heap.size wd wx)
          case first =>
            refine wp_region_noPanic ?_
            refine wp_region_held_drew (S := (fun W => Below wd.heap.size wd W)) (by kernel_rfl) ?_ (fun hHeld => ?_)
            · exact (Below.refl _ _).drew
            refine wpAnyH_take (i := 0) (oi := ?oi26) (v := ?v26) ?hi26 (by kernel_rfl) (by kernel_rfl) (by kernel_rfl) ?hQ26 ?hy26 (by assumption) ?hrest26
            case hi26 => (simp only [List.getElem?_toArray, List.getElem?_cons_zero]; try rfl)
            case hQ26 => exact fun _ _ _ h => h
            case hy26 =>
              refine Or.inl ⟨by rfl, ?_⟩
              (intro wq hSw; (try dsimp only at hSw); go_simp; try with_reducible rfl)
            (try simp only [Act.put, List.setIfInBounds_toArray, List.set_cons_zero, List.set_cons_succ])
            refine wpAnyH_take (i := 1) (oi := ?oi27) (v := ?v27) ?hi27 (by kernel_rfl) (by kernel_rfl) (by kernel_rfl) ?hQ27 ?hy27 (by assumption) ?hrest27
            case hi27 => (simp only [List.getElem?_toArray, List.getElem?_cons_succ, List.getElem?_cons_zero]; try rfl)
            case hQ27 => exact fun _ _ _ h => h
            case hy27 =>
              refine Or.inl ⟨by rfl, ?_⟩
              (intro wq hSw; (try dsimp only at hSw); go_simp; try with_reducible rfl)
            (try simp only [Act.put, List.setIfInBounds_toArray, List.set_cons_zero, List.set_cons_succ])
            refine wpAnyH_ready (rs := [2, 7]) (by kernel_rfl) (by simp) ?_
            refine AllReadyH.cons (o := ?oi28) ?hi28 (fun K hK => ?hstep28) ?hmore28
            case hi28 => (simp only [List.getElem?_toArray, List.getElem?_cons_succ, List.getElem?_cons_zero]; try rfl)
            case hstep28 =>
              go_simp
              (refine (EYc.out _ hHeld).mono ?_; rintro e wx ⟨rfl, hbx⟩; (try have n0 := cell_on hbx n0); (try have f0 := froz_on hbx nz f0); (try have n1 := cell_on hbx n1); (try have f1 := froz_on hbx nz f1); (try have n2 := cell_on hbx n2); (try have f2 := froz_on hbx nz f2); (try have nz := Nat.lt_of_lt_of_le nz hbx.size))
              refine hK.out _ _ ?_ (fun hHeld => ?_)
              · exact below_step hHeld hbx
              clear hK K
              (try simp only [Act.put, List.setIfInBounds_toArray, List.set_cons_zero, List.set_cons_succ])
              refine wpAnyH_ready (rs := [3, 7]) (by kernel_rfl) (by simp) ?_
              refine AllReadyH.cons (o := ?oi29) ?hi29 (fun K hK => ?hstep29) ?hmore29
              case hi29 => (simp only [List.getElem?_toArray, List.getElem?_cons_succ, List.getElem?_cons_zero]; try rfl)
              case hstep29 =>
                go_simp
                (refine (AYc.out _ hHeld).mono ?_; rintro e wx ⟨z, rfl, hzd, hzs, hbx⟩; (try have n0 := cell_on hbx n0); (try have f0 := froz_on hbx nz f0); (try have n1 := cell_on hbx n1); (try have f1 := froz_on hbx nz f1); (try have n2 := cell_on hbx n2); (try have f2 := froz_on hbx nz f2); (try have nz := Nat.lt_of_lt_of_le nz hbx.size))
                refine hK.out _ _ ?_ (fun hHeld => ?_)
                · exact below_step hHeld hbx
                clear hK K
                (try simp only [Act.put, List.setIfInBounds_toArray, List.set_cons_zero, List.set_cons_succ])
                refine wpAnyH_take (i := 4) (oi := ?oi30) (v := ?v30) ?hi30 (by kernel_rfl) (by kernel_rfl) (by kernel_rfl) ?hQ30 ?hy30 (by assumption) ?hrest30
                case hi30 => (simp only [List.getElem?_toArray, List.getElem?_cons_succ, List.getElem?_cons_zero]; try rfl)
                case hQ30 => exact fun _ _ _ h => h
                case hy30 =>
                  refine Or.inl ⟨by rfl, ?_⟩
                  (intro wq hSw; (try dsimp only at hSw); go_simp; try with_reducible rfl)
                (try simp only [Act.put, List.setIfInBounds_toArray, List.set_cons_zero, List.set_cons_succ])
                refine wpAnyH_take (i := 5) (oi := ?oi31) (v := ?v31) ?hi31 (by kernel_rfl) (by kernel_rfl) (by kernel_rfl) ?hQ31 ?hy31 (by assumption) ?hrest31
                case hi31 => (simp only [List.getElem?_toArray, List.getElem?_cons_succ, List.getElem?_cons_zero]; try rfl)
                case hQ31 => exact fun _ _ _ h => h
                case hy31 =>
                  refine Or.inl ⟨by rfl, ?_⟩
                  (intro wq hSw; (try dsimp only at hSw); go_simp; try with_reducible rfl)
                (try simp only [Act.put, List.setIfInBounds_toArray, List.set_cons_zero, List.set_cons_succ])
                refine wpAnyH_take (i := 6) (oi := ?oi32) (v := ?v32) ?hi32 (by kernel_rfl) (by kernel_rfl) (by kernel_rfl) ?hQ32 ?hy32 (by assumption) ?hrest32
                case hi32 => (simp only [List.getElem?_toArray, List.getElem?_cons_succ, List.getElem?_cons_zero]; try rfl)
                case hQ32 => exact fun _ _ _ h => h
                case hy32 =>
                  refine Or.inl ⟨by rfl, ?_⟩
                  (intro wq hSw; (try dsimp only at hSw); go_simp; try with_reducible rfl)
                (try simp only [Act.put, List.setIfInBounds_toArray, List.set_cons_zero, List.set_cons_succ])
                refine wpAnyH_ready (rs := [7]) (by kernel_rfl) (by simp) ?_
                refine AllReadyH.cons (o := ?oi33) ?hi33 (fun K hK => ?hstep33) AllReadyH.nil
                case hi33 => (simp only [List.getElem?_toArray, List.getElem?_cons_succ, List.getElem?_cons_zero]; try rfl)
                go_simp
                (have hvb := hHeld.size; (first | refine newvar_Kd ?_ | refine newvar_K ?_); intro wx hbx nv nf nz; have n0 := nv 0 _ rfl; have n1 := nv 1 _ rfl; have n2 := nv 2 _ rfl; have f0 := nf 0; have f1 := nf 1; have f2 := nf 2; clear nv nf; (try have hzs := hzs.keep (fun p u hp => cell_on hbx hp)))
                refine hK.out _ _ ?_ (fun hHeld => ?_)
                · exact below_step hHeld hbx
                clear hK K
                (try simp only [Act.put, List.setIfInBounds_toArray, List.set_cons_zero, List.set_cons_succ])
                refine wpAnyH_ready (rs := [8]) (by kernel_rfl) (by simp) ?_
                refine AllReadyH.cons (o := ?oi34) ?hi34 (fun K hK => ?hstep34) AllReadyH.nil
                case hi34 => (simp only [List.getElem?_toArray, List.getElem?_cons_succ, List.getElem?_cons_zero]; try rfl)
                go_simp
                (obtain ⟨z0, z1, z2⟩ := set3_cells n0 n1 n2 (.int .i64 z.c) (.int .i64 z.r) (.slice z.A z.op.length z.cap); have hzs2 := sl_set3 n0 n1 n2 hzs (.int .i64 z.c) (.int .i64 z.r) (.slice z.A z.op.length z.cap))
                refine hK.out _ _ ?_ (fun hHeld => ?_)
                · exact below_set3 hHeld hvb
                clear hK K
                (try simp only [Act.put, List.setIfInBounds_toArray, List.set_cons_zero, List.set_cons_succ])
                refine wpAnyH_take (i := 9) (oi := ?oi35) (v := ?v35) ?hi35 (by kernel_rfl) (by kernel_rfl) (by kernel_rfl) ?hQ35 ?hy35 (by assumption) ?hrest35
                case hi35 => (simp only [List.getElem?_toArray, List.getElem?_cons_succ, List.getElem?_cons_zero]; try rfl)
                case hQ35 => exact fun _ _ _ h => h
                case hy35 =>
                  refine Or.inl ⟨by rfl, ?_⟩
                  (intro wq hSw; (try dsimp only at hSw); go_simp; try with_reducible rfl)
                (try simp only [Act.put, List.setIfInBounds_toArray, List.set_cons_zero, List.set_cons_succ])
                refine wpAnyH_done (by kernel_rfl) ?_ _
                refine NoPanic.normal ?_
                (go_wp2_with fail; go_meet; exact ⟨_, z, rfl, rfl, ⟨z0, z1, z2⟩, hzd, hzs2, hHeld⟩)
              refine AllReadyH.cons (o := ?oi36) ?hi36 (fun K hK => ?hstep36) ?hmore36
              case hi36 => (simp only [List.getElem?_toArray, List.getElem?_cons_succ, List.getElem?_cons_zero]; try rfl)
              case hstep36 =>
                go_simp
                (have hvb := hHeld.size; (first | refine newvar_Kd ?_ | refine newvar_K ?_); intro wx hbx nv nf nz; have n0 := nv 0 _ rfl; have n1 := nv 1 _ rfl; have n2 := nv 2 _ rfl; have f0 := nf 0; have f1 := nf 1; have f2 := nf 2; clear nv nf; (try have hzs := hzs.keep (fun p u hp => cell_on hbx hp)))
                refine hK.out _ _ ?_ (fun hHeld => ?_)
                · exact below_step hHeld hbx
                clear hK K
                (try simp only [Act.put, List.setIfInBounds_toArray, List.set_cons_zero, List.set_cons_succ])
                refine wpAnyH_ready (rs := [3]) (by kernel_rfl) (by simp) ?_
                refine AllReadyH.cons (o := ?oi37) ?hi37 (fun K hK => ?hstep37) AllReadyH.nil
                case hi37 => (simp only [List.getElem?_toArray, List.getElem?_cons_succ, List.getElem?_cons_zero]; try rfl)
                go_simp
                (refine (AYc.out _ hHeld).mono ?_; rintro e wx ⟨z, rfl, hzd, hzs, hbx⟩; (try have n0 := cell_on hbx n0); (try have f0 := froz_on hbx nz f0); (try have n1 := cell_on hbx n1); (try have f1 := froz_on hbx nz f1); (try have n2 := cell_on hbx n2); (try have f2 := froz_on hbx nz f2); (try have nz := Nat.lt_of_lt_of_le nz hbx.size))
                refine hK.out _ _ ?_ (fun hHeld => ?_)
                · exact below_step hHeld hbx
                clear hK K
                (try simp only [Act.put, List.setIfInBounds_toArray, List.set_cons_zero, List.set_cons_succ])
                refine wpAnyH_take (i := 4) (oi := ?oi38) (v := ?v38) ?hi38 (by kernel_rfl) (by kernel_rfl) (by kernel_rfl) ?hQ38 ?hy38 (by assumption) ?hrest38
                case hi38 => (simp only [List.getElem?_toArray, List.getElem?_cons_succ, List.getElem?_cons_zero]; try rfl)
                case hQ38 => exact fun _ _ _ h => h
                case hy38 =>
                  refine Or.inl ⟨by rfl, ?_⟩
                  (intro wq hSw; (try dsimp only at hSw); go_simp; try with_reducible rfl)
                (try simp only [Act.put, List.setIfInBounds_toArray, List.set_cons_zero, List.set_cons_succ])
                refine wpAnyH_take (i := 5) (oi := ?oi39) (v := ?v39) ?hi39 (by kernel_rfl) (by kernel_rfl) (by kernel_rfl) ?hQ39 ?hy39 (by assumption) ?hrest39
                case hi39 => (simp only [List.getElem?_toArray, List.getElem?_cons_succ, List.getElem?_cons_zero]; try rfl)
                case hQ39 => exact fun _ _ _ h => h
                case hy39 =>
                  refine Or.inl ⟨by rfl, ?_⟩
                  (intro wq hSw; (try dsimp only at hSw); go_simp; try with_reducible rfl)
                (try simp only [Act.put, List.setIfInBounds_toArray, List.set_cons_zero, List.set_cons_succ])
                refine wpAnyH_take (i := 6) (oi := ?oi40) (v := ?v40) ?hi40 (by kernel_rfl) (by kernel_rfl) (by kernel_rfl) ?hQ40 ?hy40 (by assumption) ?hrest40
                case hi40 => (simp only [List.getElem?_toArray, List.getElem?_cons_succ, List.getElem?_cons_zero]; try rfl)
                case hQ40 => exact fun _ _ _ h => h
                case hy40 =>
                  refine Or.inl ⟨by rfl, ?_⟩
                  (intro wq hSw; (try dsimp only at hSw); go_simp; try with_reducible rfl)
                (try simp only [Act.put, List.setIfInBounds_toArray, List.set_cons_zero, List.set_cons_succ])
                refine wpAnyH_ready (rs := [8]) (by kernel_rfl) (by simp) ?_
                refine AllReadyH.cons (o := ?oi41) ?hi41 (fun K hK => ?hstep41) AllReadyH.nil
                case hi41 => (simp only [List.getElem?_toArray, List.getElem?_cons_succ, List.getElem?_cons_zero]; try rfl)
                go_simp
                (obtain ⟨z0, z1, z2⟩ := set3_cells n0 n1 n2 (.int .i64 z.c) (.int .i64 z.r) (.slice z.A z.op.length z.cap); have hzs2 := sl_set3 n0 n1 n2 hzs (.int .i64 z.c) (.int .i64 z.r) (.slice z.A z.op.length z.cap))
                refine hK.out _ _ ?_ (fun hHeld => ?_)
                · exact below_set3 hHeld hvb
                clear hK K
                (try simp only [Act.put, List.setIfInBounds_toArray, List.set_cons_zero, List.set_cons_succ])
                refine wpAnyH_take (i := 9) (oi := ?oi42) (v := ?v42) ?hi42 (by kernel_rfl) (by kernel_rfl) (by kernel_rfl) ?hQ42 ?hy42 (by assumption) ?hrest42
                case hi42 => (simp only [List.getElem?_toArray, List.getElem?_cons_succ, List.getElem?_cons_zero]; try rfl)
                case hQ42 => exact fun _ _ _ h => h
                case hy42 =>
                  refine Or.inl ⟨by rfl, ?_⟩
                  (intro wq hSw; (try dsimp only at hSw); go_simp; try with_reducible rfl)
                (try simp only [Act.put, List.setIfInBounds_toArray, List.set_cons_zero, List.set_cons_succ])
                refine wpAnyH_done (by kernel_rfl) ?_ _
                refine NoPanic.normal ?_
                (go_wp2_with fail; go_meet; exact ⟨_, z, rfl, rfl, ⟨z0, z1, z2⟩, hzd, hzs2, hHeld⟩)
              exact AllReadyH.nil
            refine AllReadyH.cons (o := ?oi43) ?hi43 (fun K hK => ?hstep43) ?hmore43
            case hi43 => (simp only [List.getElem?_toArray, List.getElem?_cons_succ, List.getElem?_cons_zero]; try rfl)
            case hstep43 =>
              go_simp
              (have hvb := hHeld.size; (first | refine newvar_Kd ?_ | refine newvar_K ?_); intro wx hbx nv nf nz; have n0 := nv 0 _ rfl; have n1 := nv 1 _ rfl; have n2 := nv 2 _ rfl; have f0 := nf 0; have f1 := nf 1; have f2 := nf 2; clear nv nf; (try have hzs := hzs.keep (fun p u hp => cell_on hbx hp)))
              refine hK.out _ _ ?_ (fun hHeld => ?_)
              · exact below_step hHeld hbx
              clear hK K
              (try simp only [Act.put, List.setIfInBounds_toArray, List.set_cons_zero, List.set_cons_succ])
              refine wpAnyH_ready (rs := [2]) (by kernel_rfl) (by simp) ?_
              refine AllReadyH.cons (o := ?oi44) ?hi44 (fun K hK => ?hstep44) AllReadyH.nil
              case hi44 => (simp only [List.getElem?_toArray, List.getElem?_cons_succ, List.getElem?_cons_zero]; try rfl)
              go_simp
              (refine (EYc.out _ hHeld).mono ?_; rintro e wx ⟨rfl, hbx⟩; (try have n0 := cell_on hbx n0); (try have f0 := froz_on hbx nz f0); (try have n1 := cell_on hbx n1); (try have f1 := froz_on hbx nz f1); (try have n2 := cell_on hbx n2); (try have f2 := froz_on hbx nz f2); (try have nz := Nat.lt_of_lt_of_le nz hbx.size))
              refine hK.out _ _ ?_ (fun hHeld => ?_)
              · exact below_step hHeld hbx
              clear hK K
              (try simp only [Act.put, List.setIfInBounds_toArray, List.set_cons_zero, List.set_cons_succ])
              refine wpAnyH_ready (rs := [3]) (by kernel_rfl) (by simp) ?_
              refine AllReadyH.cons (o := ?oi45) ?hi45 (fun K hK => ?hstep45) AllReadyH.nil
              case hi45 => (simp only [List.getElem?_toArray, List.getElem?_cons_succ, List.getElem?_cons_zero]; try rfl)
              go_simp
              (refine (AYc.out _ hHeld).mono ?_; rintro e wx ⟨z, rfl, hzd, hzs, hbx⟩; (try have n0 := cell_on hbx n0); (try have f0 := froz_on hbx nz f0); (try have n1 := cell_on hbx n1); (try have f1 := froz_on hbx nz f1); (try have n2 := cell_on hbx n2); (try have f2 := froz_on hbx nz f2); (try have nz := Nat.lt_of_lt_of_le nz hbx.size))
              refine hK.out _ _ ?_ (fun hHeld => ?_)
              · exact below_step hHeld hbx
              clear hK K
              (try simp only [Act.put, List.setIfInBounds_toArray, List.set_cons_zero, List.set_cons_succ])
              refine wpAnyH_take (i := 4) (oi := ?oi46) (v := ?v46) ?hi46 (by kernel_rfl) (by kernel_rfl) (by kernel_rfl) ?hQ46 ?hy46 (by assumption) ?hrest46
              case hi46 => (simp only [List.getElem?_toArray, List.getElem?_cons_succ, List.getElem?_cons_zero]; try rfl)
              case hQ46 => exact fun _ _ _ h => h
              case hy46 =>
                refine Or.inl ⟨by rfl, ?_⟩
                (intro wq hSw; (try dsimp only at hSw); go_simp; try with_reducible rfl)
              (try simp only [Act.put, List.setIfInBounds_toArray, List.set_cons_zero, List.set_cons_succ])
              refine wpAnyH_take (i := 5) (oi := ?oi47) (v := ?v47) ?hi47 (by kernel_rfl) (by kernel_rfl) (by kernel_rfl) ?hQ47 ?hy47 (by assumption) ?hrest47
              case hi47 => (simp only [List.getElem?_toArray, List.getElem?_cons_succ, List.getElem?_cons_zero]; try rfl)
              case hQ47 => exact fun _ _ _ h => h
              case hy47 =>
                refine Or.inl ⟨by rfl, ?_⟩
                (intro wq hSw; (try dsimp only at hSw); go_simp; try with_reducible rfl)
              (try simp only [Act.put, List.setIfInBounds_toArray, List.set_cons_zero, List.set_cons_succ])
              refine wpAnyH_take (i := 6) (oi := ?oi48) (v := ?v48) ?hi48 (by kernel_rfl) (by kernel_rfl) (by kernel_rfl) ?hQ48 ?hy48 (by assumption) ?hrest48
              case hi48 => (simp only [List.getElem?_toArray, List.getElem?_cons_succ, List.getElem?_cons_zero]; try rfl)
              case hQ48 => exact fun _ _ _ h => h
              case hy48 =>
                refine Or.inl ⟨by rfl, ?_⟩
                (intro wq hSw; (try dsimp only at hSw); go_simp; try with_reducible rfl)
              (try simp only [Act.put, List.setIfInBounds_toArray, List.set_cons_zero, List.set_cons_succ])
              refine wpAnyH_ready (rs := [8]) (by kernel_rfl) (by simp) ?_
              refine AllReadyH.cons (o := ?oi49) ?hi49 (fun K hK => ?hstep49) AllReadyH.nil
              case hi49 => (simp only [List.getElem?_toArray, List.getElem?_cons_succ, List.getElem?_cons_zero]; try rfl)
              go_simp
              (obtain ⟨z0, z1, z2⟩ := set3_cells n0 n1 n2 (.int .i64 z.c) (.int .i64 z.r) (.slice z.A z.op.length z.cap); have hzs2 := sl_set3 n0 n1 n2 hzs (.int .i64 z.c) (.int .i64 z.r) (.slice z.A z.op.length z.cap))
              refine hK.out _ _ ?_ (fun hHeld => ?_)
              · exact below_set3 hHeld hvb
              clear hK K
              (try simp only [Act.put, List.setIfInBounds_toArray, List.set_cons_zero, List.set_cons_succ])
              refine wpAnyH_take (i := 9) (oi := ?oi50) (v := ?v50) ?hi50 (by kernel_rfl) (by kernel_rfl) (by kernel_rfl) ?hQ50 ?hy50 (by assumption) ?hrest50
              case hi50 => (simp only [List.getElem?_toArray, List.getElem?_cons_succ, List.getElem?_cons_zero]; try rfl)
              case hQ50 => exact fun _ _ _ h => h
              case hy50 =>
                refine Or.inl ⟨by rfl, ?_⟩
                (intro wq hSw; (try dsimp only at hSw); go_simp; try with_reducible rfl)
              (try simp only [Act.put, List.setIfInBounds_toArray, List.set_cons_zero, List.set_cons_succ])
              refine wpAnyH_done (by kernel_rfl) ?_ _
              refine NoPanic.normal ?_
              (go_wp2_with fail; go_meet; exact ⟨_, z, rfl, rfl, ⟨z0, z1, z2⟩, hzd, hzs2, hHeld⟩)
            exact AllReadyH.nil
          case rest =>
            obtain ⟨Yb, zy, rfl, rfl, ⟨Y0, Y1, Y2⟩, hzyd, hzys, hby⟩ := hcut
            have bc := below_step (below_step b410 hbx) hby
            have bw := below_step (below_step b10 hbx) hby
            obtain ⟨u0, u1, _⟩ := U.out.on bc
            clear q2 q3
            go_wp2_with fail
            refine (KF.out _ bw).mono ?_
            rintro e w12 ⟨C12, q12, ws, rfl, hws, hb12⟩
            have b12w := below_step bw hb12
            have b312 := below_step bc hb12
            have hus12 := ((hus10.below hbx).below hby).below hb12
            obtain ⟨u0, u1, _⟩ := U.out.on b312
            obtain ⟨x0, x1, x2, _⟩ := X.out.on b312
            obtain ⟨y0, y1, y2, _⟩ := Y.out.on b312
            have X0 := cell_on hb12 (cell_on hby X0)
            have X1 := cell_on hb12 (cell_on hby X1)
            have X2 := cell_on hb12 (cell_on hby X2)
            have Y0 := cell_on hb12 Y0
            have Y1 := cell_on hb12 Y1
            have Y2 := cell_on hb12 Y2
            have u0q := fun W (hW : Below w12.heap.size w12 W) => cell_on hW u0
            have u1q := fun W (hW : Below w12.heap.size w12 W) => cell_on hW u1
            have x0q := fun W (hW : Below w12.heap.size w12 W) => cell_on hW x0
            have x1q := fun W (hW : Below w12.heap.size w12 W) => cell_on hW x1
            have x2q := fun W (hW : Below w12.heap.size w12 W) => cell_on hW x2
            have y0q := fun W (hW : Below w12.heap.size w12 W) => cell_on hW y0
            have y1q := fun W (hW : Below w12.heap.size w12 W) => cell_on hW y1
            have y2q := fun W (hW : Below w12.heap.size w12 W) => cell_on hW y2
            have X0q := fun W (hW : Below w12.heap.size w12 W) => cell_on hW X0
            have X1q := fun W (hW : Below w12.heap.size w12 W) => cell_on hW X1
            have X2q := fun W (hW : Below w12.heap.size w12 W) => cell_on hW X2
            have Y0q := fun W (hW : Below w12.heap.size w12 W) => cell_on hW Y0
            have Y1q := fun W (hW : Below w12.heap.size w12 W) => cell_on hW Y1
            have Y2q := fun W (hW : Below w12.heap.size w12 W) => cell_on hW Y2
            have b1012 := below_step (below_step hbx hby) hb12
            have q0 := fun W (hW : Below w12.heap.size w12 W) => q0 W (below_step b1012 hW)
            have q1 := fun W (hW : Below w12.heap.size w12 W) => q1 W (below_step b1012 hW)
            have E12 := hid (fun W (hW : Below w12.heap.size w12 W) => EX.out W (below_step b1012 hW))
            have F12 := hid (fun W (hW : Below w12.heap.size w12 W) => FX.out W (below_step b1012 hW))
            have KE12 := hid (fun W (hW : Below w12.heap.size w12 W) => KE.out W (below_step b12w hW))
            have hzs := (hzs.keep (fun p u hp => cell_on hby hp)).keep (fun p u hp => cell_on hb12 hp)
            have hzys := hzys.keep (fun p u hp => cell_on hb12 hp)
            have hx12 := HX.out _ b12w
            have hy12 := HY.out _ b12w
            have KS := hid (fun W (hW : Below w12.heap.size w12 W) => (samee_any (hus12.below hW) (hws.below hW) (by have := hus12.len; have := fromL_len s L s; have := HL.out; omega)).mono (fun e w' hh => (show e = .returned (.bool true) ∧ Below W.heap.size W w' from ⟨hh.1.trans (congrArg (fun b => Ending.returned (.bool b)) (decide_eq_true rfl)), hh.2⟩)))
            have KT := hid (fun W A1 A2 (g1 : Lg W A1 2 [z, zy] [z.data, zy.data]) (g2 : Lg W A2 2 [x, y] [x.data, y.data]) => (samee_any g1 g2 (by simp)).mono (fun e w' hh => (show e = .returned (.bool true) ∧ Below W.heap.size W w' from ⟨hh.1.trans (congrArg (fun b => Ending.returned (.bool b)) (decide_eq_true (by rw [hzd, hzyd]))), hh.2⟩)))
            clear u0 u1 x0 x1 x2 y0 y1 y2 X0 X1 X2 Y0 Y1 Y2
            go_upto_region 12 with fail
            refine wp_region_noPanic ?_
            refine wp_region_held_drew (S := (fun W => Below w12.heap.size w12 W)) (by kernel_rfl) ?_ (fun hHeld => ?_)
            · exact (Below.refl _ _).drew
            refine wpAnyH_take (i := 0) (oi := ?oi51) (v := ?v51) ?hi51 (by kernel_rfl) (by kernel_rfl) (by kernel_rfl) ?hQ51 ?hy51 (by assumption) ?hrest51
            case hi51 => (simp only [List.getElem?_toArray, List.getElem?_cons_zero]; try rfl)
            case hQ51 => exact fun _ _ _ h => h
            case hy51 =>
              refine Or.inl ⟨by rfl, ?_⟩
              (intro wq hSw; (try dsimp only at hSw); go_simp; try with_reducible rfl)
            (try simp only [Act.put, List.setIfInBounds_toArray, List.set_cons_zero, List.set_cons_succ])
            refine wpAnyH_take (i := 1) (oi := ?oi52) (v := ?v52) ?hi52 (by kernel_rfl) (by kernel_rfl) (by kernel_rfl) ?hQ52 ?hy52 (by assumption) ?hrest52
            case hi52 => (simp only [List.getElem?_toArray, List.getElem?_cons_succ, List.getElem?_cons_zero]; try rfl)
            case hQ52 => exact fun _ _ _ h => h
            case hy52 =>
              refine Or.inl ⟨by rfl, ?_⟩
              (intro wq hSw; (try dsimp only at hSw); go_simp; try with_reducible rfl)
            (try simp only [Act.put, List.setIfInBounds_toArray, List.set_cons_zero, List.set_cons_succ])
            refine wpAnyH_take (i := 2) (oi := ?oi53) (v := ?v53) ?hi53 (by kernel_rfl) (by kernel_rfl) (by kernel_rfl) ?hQ53 ?hy53 (by assumption) ?hrest53
            case hi53 => (simp only [List.getElem?_toArray, List.getElem?_cons_succ, List.getElem?_cons_zero]; try rfl)
            case hQ53 => exact fun _ _ _ h => h
            case hy53 =>
              refine Or.inl ⟨by rfl, ?_⟩
              (intro wq hSw; (try dsimp only at hSw); go_simp; try with_reducible rfl)
            (try simp only [Act.put, List.setIfInBounds_toArray, List.set_cons_zero, List.set_cons_succ])
            refine wpAnyH_take (i := 3) (oi := ?oi54) (v := ?v54) ?hi54 (by kernel_rfl) (by kernel_rfl) (by kernel_rfl) ?hQ54 ?hy54 (by assumption) ?hrest54
            case hi54 => (simp only [List.getElem?_toArray, List.getElem?_cons_succ, List.getElem?_cons_zero]; try rfl)
            case hQ54 => exact fun _ _ _ h => h
            case hy54 =>
              refine Or.inl ⟨by rfl, ?_⟩
              (intro wq hSw; (try dsimp only at hSw); go_simp; try with_reducible rfl)
            (try simp only [Act.put, List.setIfInBounds_toArray, List.set_cons_zero, List.set_cons_succ])
            refine wpAnyH_take (i := 4) (oi := ?oi55) (v := ?v55) ?hi55 (by kernel_rfl) (by kernel_rfl) (by kernel_rfl) ?hQ55 ?hy55 (by assumption) ?hrest55
            case hi55 => (simp only [List.getElem?_toArray, List.getElem?_cons_succ, List.getElem?_cons_zero]; try rfl)
            case hQ55 => exact fun _ _ _ h => h
            case hy55 =>
              refine Or.inl ⟨by rfl, ?_⟩
              (intro wq hSw; (try dsimp only at hSw); go_simp; try with_reducible rfl)
            (try simp only [Act.put, List.setIfInBounds_toArray, List.set_cons_zero, List.set_cons_succ])
            refine wpAnyH_take (i := 5) (oi := ?oi56) (v := ?v56) ?hi56 (by kernel_rfl) (by kernel_rfl) (by kernel_rfl) ?hQ56 ?hy56 (by assumption) ?hrest56
            case hi56 => (simp only [List.getElem?_toArray, List.getElem?_cons_succ, List.getElem?_cons_zero]; try rfl)
            case hQ56 => exact fun _ _ _ h => h
            case hy56 =>
              refine Or.inl ⟨by rfl, ?_⟩
              (intro wq hSw; (try dsimp only at hSw); go_simp; try with_reducible rfl)
            (try simp only [Act.put, List.setIfInBounds_toArray, List.set_cons_zero, List.set_cons_succ])
            refine wpAnyH_take (i := 6) (oi := ?oi57) (v := ?v57) ?hi57 (by kernel_rfl) (by kernel_rfl) (by kernel_rfl) ?hQ57 ?hy57 (by assumption) ?hrest57
            case hi57 => (simp only [List.getElem?_toArray, List.getElem?_cons_succ, List.getElem?_cons_zero]; try rfl)
            case hQ57 => exact fun _ _ _ h => h
            case hy57 =>
              refine Or.inl ⟨by rfl, ?_⟩
              (intro wq hSw; (try dsimp only at hSw); go_simp; try with_reducible rfl)
            (try simp only [Act.put, List.setIfInBounds_toArray, List.set_cons_zero, List.set_cons_succ])
            refine wpAnyH_take (i := 7) (oi := ?oi58) (v := ?v58) ?hi58 (by kernel_rfl) (by kernel_rfl) (by kernel_rfl) ?hQ58 ?hy58 (by assumption) ?hrest58
            case hi58 => (simp only [List.getElem?_toArray, List.getElem?_cons_succ, List.getElem?_cons_zero]; try rfl)
            case hQ58 => exact fun _ _ _ h => h
            case hy58 =>
              refine Or.inl ⟨by rfl, ?_⟩
              (intro wq hSw; (try dsimp only at hSw); go_simp; try with_reducible rfl)
            (try simp only [Act.put, List.setIfInBounds_toArray, List.set_cons_zero, List.set_cons_succ])
            refine wpAnyH_take (i := 8) (oi := ?oi59) (v := ?v59) ?hi59 (by kernel_rfl) (by kernel_rfl) (by kernel_rfl) ?hQ59 ?hy59 (by assumption) ?hrest59
            case hi59 => (simp only [List.getElem?_toArray, List.getElem?_cons_succ, List.getElem?_cons_zero]; try rfl)
            case hQ59 => exact fun _ _ _ h => h
            case hy59 =>
              refine Or.inl ⟨by rfl, ?_⟩
              (intro wq hSw; (try dsimp only at hSw); go_simp; try with_reducible rfl)
            (try simp only [Act.put, List.setIfInBounds_toArray, List.set_cons_zero, List.set_cons_succ])
            refine wpAnyH_take (i := 10) (oi := ?oi60) (v := ?v60) ?hi60 (by kernel_rfl) (by kernel_rfl) (by kernel_rfl) ?hQ60 ?hy60 (by assumption) ?hrest60
            case hi60 => (simp only [List.getElem?_toArray, List.getElem?_cons_succ, List.getElem?_cons_zero]; try rfl)
            case hQ60 => exact fun _ _ _ h => h
            case hy60 =>
              refine Or.inl ⟨by rfl, ?_⟩
              (intro wq hSw; (try dsimp only at hSw); go_simp; try with_reducible rfl)
            (try simp only [Act.put, List.setIfInBounds_toArray, List.set_cons_zero, List.set_cons_succ])
            refine wpAnyH_ready (rs := [9]) (by kernel_rfl) (by simp) ?_
            refine AllReadyH.cons (o := ?oi61) ?hi61 (fun K hK => ?hstep61) AllReadyH.nil
            case hi61 => (simp only [List.getElem?_toArray, List.getElem?_cons_succ, List.getElem?_cons_zero]; try rfl)
            go_simp
            (refine (E12.out _ hHeld).mono ?_; rintro e wx ⟨rfl, hbx⟩)
            refine hK.out _ _ ?_ (fun hHeld => ?_)
            · exact below_step hHeld hbx
            clear hK K
            (try simp only [Act.put, List.setIfInBounds_toArray, List.set_cons_zero, List.set_cons_succ])
            refine wpAnyH_ready (rs := [11]) (by kernel_rfl) (by simp) ?_
            refine AllReadyH.cons (o := ?oi62) ?hi62 (fun K hK => ?hstep62) AllReadyH.nil
            case hi62 => (simp only [List.getElem?_toArray, List.getElem?_cons_succ, List.getElem?_cons_zero]; try rfl)
            go_simp
            (refine (KE12.out _ hHeld).mono ?_; rintro e wx ⟨rfl, hbx⟩)
            refine hK.out _ _ ?_ (fun hHeld => ?_)
            · exact below_step hHeld hbx
            clear hK K
            (try simp only [Act.put, List.setIfInBounds_toArray, List.set_cons_zero, List.set_cons_succ])
            refine wpAnyH_take (i := 12) (oi := ?oi63) (v := ?v63) ?hi63 (by kernel_rfl) (by kernel_rfl) (by kernel_rfl) ?hQ63 ?hy63 (by assumption) ?hrest63
            case hi63 => (simp only [List.getElem?_toArray, List.getElem?_cons_succ, List.getElem?_cons_zero]; try rfl)
            case hQ63 => exact fun _ _ _ h => h
            case hy63 =>
              refine Or.inl ⟨by rfl, ?_⟩
              (intro wq hSw; (try dsimp only at hSw); go_simp; try with_reducible rfl)
            (try simp only [Act.put, List.setIfInBounds_toArray, List.set_cons_zero, List.set_cons_succ])
            refine wpAnyH_take (i := 13) (oi := ?oi64) (v := ?v64) ?hi64 (by kernel_rfl) (by kernel_rfl) (by kernel_rfl) ?hQ64 ?hy64 (by assumption) ?hrest64
            case hi64 => (simp only [List.getElem?_toArray, List.getElem?_cons_succ, List.getElem?_cons_zero]; try rfl)
            case hQ64 => exact fun _ _ _ h => h
            case hy64 =>
              refine Or.inl ⟨by rfl, ?_⟩
              (intro wq hSw; (try dsimp only at hSw); go_simp; try with_reducible rfl)
            (try simp only [Act.put, List.setIfInBounds_toArray, List.set_cons_zero, List.set_cons_succ])
            refine wpAnyH_take (i := 14) (oi := ?oi65) (v := ?v65) ?hi65 (by kernel_rfl) (by kernel_rfl) (by kernel_rfl) ?hQ65 ?hy65 (by assumption) ?hrest65
            case hi65 => (simp only [List.getElem?_toArray, List.getElem?_cons_succ, List.getElem?_cons_zero]; try rfl)
            case hQ65 => exact fun _ _ _ h => h
            case hy65 =>
              refine Or.inl ⟨by rfl, ?_⟩
              (intro wq hSw; (try dsimp only at hSw); go_simp; try with_reducible rfl)
            (try simp only [Act.put, List.setIfInBounds_toArray, List.set_cons_zero, List.set_cons_succ])
            refine wpAnyH_take (i := 15) (oi := ?oi66) (v := ?v66) ?hi66 (by kernel_rfl) (by kernel_rfl) (by kernel_rfl) ?hQ66 ?hy66 (by assumption) ?hrest66
            case hi66 => (simp only [List.getElem?_toArray, List.getElem?_cons_succ, List.getElem?_cons_zero]; try rfl)
            case hQ66 => exact fun _ _ _ h => h
            case hy66 =>
              refine Or.inl ⟨by rfl, ?_⟩
              (intro wq hSw; (try dsimp only at hSw); go_simp; try with_reducible rfl)
            (try simp only [Act.put, List.setIfInBounds_toArray, List.set_cons_zero, List.set_cons_succ])
            refine wpAnyH_take (i := 16) (oi := ?oi67) (v := ?v67) ?hi67 (by kernel_rfl) (by kernel_rfl) (by kernel_rfl) ?hQ67 ?hy67 (by assumption) ?hrest67
            case hi67 => (simp only [List.getElem?_toArray, List.getElem?_cons_succ, List.getElem?_cons_zero]; try rfl)
            case hQ67 => exact fun _ _ _ h => h
            case hy67 =>
              refine Or.inl ⟨by rfl, ?_⟩
              (intro wq hSw; (try dsimp only at hSw); go_simp; try with_reducible rfl)
            (try simp only [Act.put, List.setIfInBounds_toArray, List.set_cons_zero, List.set_cons_succ])
            refine wpAnyH_take (i := 17) (oi := ?oi68) (v := ?v68) ?hi68 (by kernel_rfl) (by kernel_rfl) (by kernel_rfl) ?hQ68 ?hy68 (by assumption) ?hrest68
            case hi68 => (simp only [List.getElem?_toArray, List.getElem?_cons_succ, List.getElem?_cons_zero]; try rfl)
            case hQ68 => exact fun _ _ _ h => h
            case hy68 =>
              refine Or.inl ⟨by rfl, ?_⟩
              (intro wq hSw; (try dsimp only at hSw); go_simp; try with_reducible rfl)
            (try simp only [Act.put, List.setIfInBounds_toArray, List.set_cons_zero, List.set_cons_succ])
            refine wpAnyH_take (i := 19) (oi := ?oi69) (v := ?v69) ?hi69 (by kernel_rfl) (by kernel_rfl) (by kernel_rfl) ?hQ69 ?hy69 (by assumption) ?hrest69
            case hi69 => (simp only [List.getElem?_toArray, List.getElem?_cons_succ, List.getElem?_cons_zero]; try rfl)
            case hQ69 => exact fun _ _ _ h => h
            case hy69 =>
              refine Or.inl ⟨by rfl, ?_⟩
              (intro wq hSw; (try dsimp only at hSw); go_simp; try with_reducible rfl)
            (try simp only [Act.put, List.setIfInBounds_toArray, List.set_cons_zero, List.set_cons_succ])
            refine wpAnyH_take (i := 20) (oi := ?oi70) (v := ?v70) ?hi70 (by kernel_rfl) (by kernel_rfl) (by kernel_rfl) ?hQ70 ?hy70 (by assumption) ?hrest70
            case hi70 => (simp only [List.getElem?_toArray, List.getElem?_cons_succ, List.getElem?_cons_zero]; try rfl)
            case hQ70 => exact fun _ _ _ h => h
            case hy70 =>
              refine Or.inl ⟨by rfl, ?_⟩
              (intro wq hSw; (try dsimp only at hSw); go_simp; try with_reducible rfl)
            (try simp only [Act.put, List.setIfInBounds_toArray, List.set_cons_zero, List.set_cons_succ])
            refine wpAnyH_ready (rs := [18, 21]) (by kernel_rfl) (by simp) ?_
            refine AllReadyH.cons (o := ?oi71) ?hi71 (fun K hK => ?hstep71) ?hmore71
            case hi71 => (simp only [List.getElem?_toArray, List.getElem?_cons_succ, List.getElem?_cons_zero]; try rfl)
            case hstep71 =>
              go_simp
              (have hh0 := hHeld; (first | refine newvar_Kd ?_ | refine newvar_K ?_); intro wx hbx nv nf nz; have hwx := below_step hh0 hbx; have lgz := two_lg (nv 0 _ rfl) (nv 1 _ rfl) (nv 2 _ rfl) (nv 3 _ rfl) (nv 4 _ rfl) (nv 5 _ rfl) (hzs.keep (fun p u hp => cell_on hwx hp)) (hzys.keep (fun p u hp => cell_on hwx hp)); (try have lgx := lgx.below hbx); clear nv nf)
              refine hK.out _ _ ?_ (fun hHeld => ?_)
              · exact below_step hHeld hbx
              clear hK K
              (try simp only [Act.put, List.setIfInBounds_toArray, List.set_cons_zero, List.set_cons_succ])
              refine wpAnyH_ready (rs := [21]) (by kernel_rfl) (by simp) ?_
              refine AllReadyH.cons (o := ?oi72) ?hi72 (fun K hK => ?hstep72) AllReadyH.nil
              case hi72 => (simp only [List.getElem?_toArray, List.getElem?_cons_succ, List.getElem?_cons_zero]; try rfl)
              go_simp
              (have hh0 := hHeld; (first | refine newvar_Kd ?_ | refine newvar_K ?_); intro wx hbx nv nf nz; have hwx := below_step hh0 hbx; have lgx := two_lg (nv 0 _ rfl) (nv 1 _ rfl) (nv 2 _ rfl) (nv 3 _ rfl) (nv 4 _ rfl) (nv 5 _ rfl) (hx12.keep (fun p u hp => cell_on hwx hp)) (hy12.keep (fun p u hp => cell_on hwx hp)); (try have lgz := lgz.below hbx); clear nv nf)
              refine hK.out _ _ ?_ (fun hHeld => ?_)
              · exact below_step hHeld hbx
              clear hK K
              (try simp only [Act.put, List.setIfInBounds_toArray, List.set_cons_zero, List.set_cons_succ])
              refine wpAnyH_ready (rs := [22]) (by kernel_rfl) (by simp) ?_
              refine AllReadyH.cons (o := ?oi73) ?hi73 (fun K hK => ?hstep73) AllReadyH.nil
              case hi73 => (simp only [List.getElem?_toArray, List.getElem?_cons_succ, List.getElem?_cons_zero]; try rfl)
              go_simp
              (refine (KT.out _ _ _ lgz lgx).mono ?_; rintro e wx ⟨rfl, hbx⟩)
              refine hK.out _ _ ?_ (fun hHeld => ?_)
              · exact below_step hHeld hbx
              clear hK K
              (try simp only [Act.put, List.setIfInBounds_toArray, List.set_cons_zero, List.set_cons_succ])
              refine wpAnyH_take (i := 23) (oi := ?oi74) (v := ?v74) ?hi74 (by kernel_rfl) (by kernel_rfl) (by kernel_rfl) ?hQ74 ?hy74 (by assumption) ?hrest74
              case hi74 => (simp only [List.getElem?_toArray, List.getElem?_cons_succ, List.getElem?_cons_zero]; try rfl)
              case hQ74 => exact fun _ _ _ h => h
              case hy74 =>
                refine Or.inl ⟨by rfl, ?_⟩
                (intro wq hSw; (try dsimp only at hSw); go_simp; try with_reducible rfl)
              (try simp only [Act.put, List.setIfInBounds_toArray, List.set_cons_zero, List.set_cons_succ])
              refine wpAnyH_take (i := 24) (oi := ?oi75) (v := ?v75) ?hi75 (by kernel_rfl) (by kernel_rfl) (by kernel_rfl) ?hQ75 ?hy75 (by assumption) ?hrest75
              case hi75 => (simp only [List.getElem?_toArray, List.getElem?_cons_succ, List.getElem?_cons_zero]; try rfl)
              case hQ75 => exact fun _ _ _ h => h
              case hy75 =>
                refine Or.inl ⟨by rfl, ?_⟩
                (intro wq hSw; (try dsimp only at hSw); go_simp; try with_reducible rfl)
              (try simp only [Act.put, List.setIfInBounds_toArray, List.set_cons_zero, List.set_cons_succ])
              refine wpAnyH_take (i := 25) (oi := ?oi76) (v := ?v76) ?hi76 (by kernel_rfl) (by kernel_rfl) (by kernel_rfl) ?hQ76 ?hy76 (by assumption) ?hrest76
              case hi76 => (simp only [List.getElem?_toArray, List.getElem?_cons_succ, List.getElem?_cons_zero]; try rfl)
              case hQ76 => exact fun _ _ _ h => h
              case hy76 =>
                refine Or.inl ⟨by rfl, ?_⟩
                (intro wq hSw; (try dsimp only at hSw); go_simp; try with_reducible rfl)
              (try simp only [Act.put, List.setIfInBounds_toArray, List.set_cons_zero, List.set_cons_succ])
              refine wpAnyH_take (i := 26) (oi := ?oi77) (v := ?v77) ?hi77 (by kernel_rfl) (by kernel_rfl) (by kernel_rfl) ?hQ77 ?hy77 (by assumption) ?hrest77
              case hi77 => (simp only [List.getElem?_toArray, List.getElem?_cons_succ, List.getElem?_cons_zero]; try rfl)
              case hQ77 => exact fun _ _ _ h => h
              case hy77 =>
                refine Or.inl ⟨by rfl, ?_⟩
                (intro wq hSw; (try dsimp only at hSw); go_simp; try with_reducible rfl)
              (try simp only [Act.put, List.setIfInBounds_toArray, List.set_cons_zero, List.set_cons_succ])
              refine wpAnyH_take (i := 27) (oi := ?oi78) (v := ?v78) ?hi78 (by kernel_rfl) (by kernel_rfl) (by kernel_rfl) ?hQ78 ?hy78 (by assumption) ?hrest78
              case hi78 => (simp only [List.getElem?_toArray, List.getElem?_cons_succ, List.getElem?_cons_zero]; try rfl)
              case hQ78 => exact fun _ _ _ h => h
              case hy78 =>
                refine Or.inl ⟨by rfl, ?_⟩
                (intro wq hSw; (try dsimp only at hSw); go_simp; try with_reducible rfl)
              (try simp only [Act.put, List.setIfInBounds_toArray, List.set_cons_zero, List.set_cons_succ])
              refine wpAnyH_take (i := 28) (oi := ?oi79) (v := ?v79) ?hi79 (by kernel_rfl) (by kernel_rfl) (by kernel_rfl) ?hQ79 ?hy79 (by assumption) ?hrest79
              case hi79 => (simp only [List.getElem?_toArray, List.getElem?_cons_succ, List.getElem?_cons_zero]; try rfl)
              case hQ79 => exact fun _ _ _ h => h
              case hy79 =>
                refine Or.inl ⟨by rfl, ?_⟩
                (intro wq hSw; (try dsimp only at hSw); go_simp; try with_reducible rfl)
              (try simp only [Act.put, List.setIfInBounds_toArray, List.set_cons_zero, List.set_cons_succ])
              refine wpAnyH_take (i := 29) (oi := ?oi80) (v := ?v80) ?hi80 (by kernel_rfl) (by kernel_rfl) (by kernel_rfl) ?hQ80 ?hy80 (by assumption) ?hrest80
              case hi80 => (simp only [List.getElem?_toArray, List.getElem?_cons_succ, List.getElem?_cons_zero]; try rfl)
              case hQ80 => exact fun _ _ _ h => h
              case hy80 =>
                refine Or.inl ⟨by rfl, ?_⟩
                (intro wq hSw; (try dsimp only at hSw); go_simp; try with_reducible rfl)
              (try simp only [Act.put, List.setIfInBounds_toArray, List.set_cons_zero, List.set_cons_succ])
              refine wpAnyH_take (i := 31) (oi := ?oi81) (v := ?v81) ?hi81 (by kernel_rfl) (by kernel_rfl) (by kernel_rfl) ?hQ81 ?hy81 (by assumption) ?hrest81
              case hi81 => (simp only [List.getElem?_toArray, List.getElem?_cons_succ, List.getElem?_cons_zero]; try rfl)
              case hQ81 => exact fun _ _ _ h => h
              case hy81 =>
                refine Or.inl ⟨by rfl, ?_⟩
                (intro wq hSw; (try dsimp only at hSw); go_simp; try with_reducible rfl)
              (try simp only [Act.put, List.setIfInBounds_toArray, List.set_cons_zero, List.set_cons_succ])
              refine wpAnyH_ready (rs := [30]) (by kernel_rfl) (by simp) ?_
              refine AllReadyH.cons (o := ?oi82) ?hi82 (fun K hK => ?hstep82) AllReadyH.nil
              case hi82 => (simp only [List.getElem?_toArray, List.getElem?_cons_succ, List.getElem?_cons_zero]; try rfl)
              go_simp
              (refine (F12.out _ hHeld).mono ?_; rintro e wx ⟨rfl, hbx⟩)
              refine hK.out _ _ ?_ (fun hHeld => ?_)
              · exact below_step hHeld hbx
              clear hK K
              (try simp only [Act.put, List.setIfInBounds_toArray, List.set_cons_zero, List.set_cons_succ])
              refine wpAnyH_ready (rs := [32]) (by kernel_rfl) (by simp) ?_
              refine AllReadyH.cons (o := ?oi83) ?hi83 (fun K hK => ?hstep83) AllReadyH.nil
              case hi83 => (simp only [List.getElem?_toArray, List.getElem?_cons_succ, List.getElem?_cons_zero]; try rfl)
              go_simp
              (refine (E12.out _ hHeld).mono ?_; rintro e wx ⟨rfl, hbx⟩)
              refine hK.out _ _ ?_ (fun hHeld => ?_)
              · exact below_step hHeld hbx
              clear hK K
              (try simp only [Act.put, List.setIfInBounds_toArray, List.set_cons_zero, List.set_cons_succ])
              refine wpAnyH_take (i := 33) (oi := ?oi84) (v := ?v84) ?hi84 (by kernel_rfl) (by kernel_rfl) (by kernel_rfl) ?hQ84 ?hy84 (by assumption) ?hrest84
              case hi84 => (simp only [List.getElem?_toArray, List.getElem?_cons_succ, List.getElem?_cons_zero]; try rfl)
              case hQ84 => exact fun _ _ _ h => h
              case hy84 =>
                refine Or.inl ⟨by rfl, ?_⟩
                (intro wq hSw; (try dsimp only at hSw); go_simp; try with_reducible rfl)
              (try simp only [Act.put, List.setIfInBounds_toArray, List.set_cons_zero, List.set_cons_succ])
              refine wpAnyH_take (i := 34) (oi := ?oi85) (v := ?v85) ?hi85 (by kernel_rfl) (by kernel_rfl) (by kernel_rfl) ?hQ85 ?hy85 (by assumption) ?hrest85
              case hi85 => (simp only [List.getElem?_toArray, List.getElem?_cons_succ, List.getElem?_cons_zero]; try rfl)
              case hQ85 => exact fun _ _ _ h => h
              case hy85 =>
                refine Or.inl ⟨by rfl, ?_⟩
                (intro wq hSw; (try dsimp only at hSw); go_simp; try with_reducible rfl)
              (try simp only [Act.put, List.setIfInBounds_toArray, List.set_cons_zero, List.set_cons_succ])
              refine wpAnyH_take (i := 35) (oi := ?oi86) (v := ?v86) ?hi86 (by kernel_rfl) (by kernel_rfl) (by kernel_rfl) ?hQ86 ?hy86 (by assumption) ?hrest86
              case hi86 => (simp only [List.getElem?_toArray, List.getElem?_cons_succ, List.getElem?_cons_zero]; try rfl)
              case hQ86 => exact fun _ _ _ h => h
              case hy86 =>
                refine Or.inl ⟨by rfl, ?_⟩
                (intro wq hSw; (try dsimp only at hSw); go_simp; try with_reducible rfl)
              (try simp only [Act.put, List.setIfInBounds_toArray, List.set_cons_zero, List.set_cons_succ])
              refine wpAnyH_take (i := 36) (oi := ?oi87) (v := ?v87) ?hi87 (by kernel_rfl) (by kernel_rfl) (by kernel_rfl) ?hQ87 ?hy87 (by assumption) ?hrest87
              case hi87 => (simp only [List.getElem?_toArray, List.getElem?_cons_succ, List.getElem?_cons_zero]; try rfl)
              case hQ87 => exact fun _ _ _ h => h
              case hy87 =>
                refine Or.inl ⟨by rfl, ?_⟩
                (intro wq hSw; (try dsimp only at hSw); go_simp; try with_reducible rfl)
              (try simp only [Act.put, List.setIfInBounds_toArray, List.set_cons_zero, List.set_cons_succ])
              refine wpAnyH_take (i := 37) (oi := ?oi88) (v := ?v88) ?hi88 (by kernel_rfl) (by kernel_rfl) (by kernel_rfl) ?hQ88 ?hy88 (by assumption) ?hrest88
              case hi88 => (simp only [List.getElem?_toArray, List.getElem?_cons_succ, List.getElem?_cons_zero]; try rfl)
              case hQ88 => exact fun _ _ _ h => h
              case hy88 =>
                refine Or.inl ⟨by rfl, ?_⟩
                (intro wq hSw; (try dsimp only at hSw); go_simp; try with_reducible rfl)
              (try simp only [Act.put, List.setIfInBounds_toArray, List.set_cons_zero, List.set_cons_succ])
              refine wpAnyH_ready (rs := [38]) (by kernel_rfl) (by simp) ?_
              refine AllReadyH.cons (o := ?oi89) ?hi89 (fun K hK => ?hstep89) AllReadyH.nil
              case hi89 => (simp only [List.getElem?_toArray, List.getElem?_cons_succ, List.getElem?_cons_zero]; try rfl)
              go_simp
              (refine (KS.out _ hHeld).mono ?_; rintro e wx ⟨rfl, hbx⟩)
              refine hK.out _ _ ?_ (fun hHeld => ?_)
              · exact below_step hHeld hbx
              clear hK K
              (try simp only [Act.put, List.setIfInBounds_toArray, List.set_cons_zero, List.set_cons_succ])
              refine wpAnyH_take (i := 39) (oi := ?oi90) (v := ?v90) ?hi90 (by kernel_rfl) (by kernel_rfl) (by kernel_rfl) ?hQ90 ?hy90 (by assumption) ?hrest90
              case hi90 => (simp only [List.getElem?_toArray, List.getElem?_cons_succ, List.getElem?_cons_zero]; try rfl)
              case hQ90 => exact fun _ _ _ h => h
              case hy90 =>
                refine Or.inl ⟨by rfl, ?_⟩
                (intro wq hSw; (try dsimp only at hSw); go_simp; try with_reducible rfl)
              (try simp only [Act.put, List.setIfInBounds_toArray, List.set_cons_zero, List.set_cons_succ])
              refine wpAnyH_take (i := 40) (oi := ?oi91) (v := ?v91) ?hi91 (by kernel_rfl) (by kernel_rfl) (by kernel_rfl) ?hQ91 ?hy91 (by assumption) ?hrest91
              case hi91 => (simp only [List.getElem?_toArray, List.getElem?_cons_succ, List.getElem?_cons_zero]; try rfl)
              case hQ91 => exact fun _ _ _ h => h
              case hy91 =>
                refine Or.inl ⟨by rfl, ?_⟩
                (intro wq hSw; (try dsimp only at hSw); go_simp; try with_reducible rfl)
              (try simp only [Act.put, List.setIfInBounds_toArray, List.set_cons_zero, List.set_cons_succ])
              refine wpAnyH_done (by kernel_rfl) ?_ _
              refine NoPanic.normal ?_
              (go_wp2_with fail; go_ret; exact ⟨rfl, below_step b12w hHeld⟩)
            refine AllReadyH.cons (o := ?oi92) ?hi92 (fun K hK => ?hstep92) ?hmore92
            case hi92 => (simp only [List.getElem?_toArray, List.getElem?_cons_succ, List.getElem?_cons_zero]; try rfl)
            case hstep92 =>
              go_simp
              (have hh0 := hHeld; (first | refine newvar_Kd ?_ | refine newvar_K ?_); intro wx hbx nv nf nz; have hwx := below_step hh0 hbx; have lgx := two_lg (nv 0 _ rfl) (nv 1 _ rfl) (nv 2 _ rfl) (nv 3 _ rfl) (nv 4 _ rfl) (nv 5 _ rfl) (hx12.keep (fun p u hp => cell_on hwx hp)) (hy12.keep (fun p u hp => cell_on hwx hp)); (try have lgz := lgz.below hbx); clear nv nf)
              refine hK.out _ _ ?_ (fun hHeld => ?_)
              · exact below_step hHeld hbx
              clear hK K
              (try simp only [Act.put, List.setIfInBounds_toArray, List.set_cons_zero, List.set_cons_succ])
              refine wpAnyH_ready (rs := [18]) (by kernel_rfl) (by simp) ?_
              refine AllReadyH.cons (o := ?oi93) ?hi93 (fun K hK => ?hstep93) AllReadyH.nil
              case hi93 => (simp only [List.getElem?_toArray, List.getElem?_cons_succ, List.getElem?_cons_zero]; try rfl)
              go_simp
              (have hh0 := hHeld; (first | refine newvar_Kd ?_ | refine newvar_K ?_); intro wx hbx nv nf nz; have hwx := below_step hh0 hbx; have lgz := two_lg (nv 0 _ rfl) (nv 1 _ rfl) (nv 2 _ rfl) (nv 3 _ rfl) (nv 4 _ rfl) (nv 5 _ rfl) (hzs.keep (fun p u hp => cell_on hwx hp)) (hzys.keep (fun p u hp => cell_on hwx hp)); (try have lgx := lgx.below hbx); clear nv nf)
              refine hK.out _ _ ?_ (fun hHeld => ?_)
              · exact below_step hHeld hbx
              clear hK K
              (try simp only [Act.put, List.setIfInBounds_toArray, List.set_cons_zero, List.set_cons_succ])
              refine wpAnyH_ready (rs := [22]) (by kernel_rfl) (by simp) ?_
              refine AllReadyH.cons (o := ?oi94) ?hi94 (fun K hK => ?hstep94) AllReadyH.nil
              case hi94 => (simp only [List.getElem?_toArray, List.getElem?_cons_succ, List.getElem?_cons_zero]; try rfl)
              go_simp
              (refine (KT.out _ _ _ lgz lgx).mono ?_; rintro e wx ⟨rfl, hbx⟩)
              refine hK.out _ _ ?_ (fun hHeld => ?_)
              · exact below_step hHeld hbx
              clear hK K
              (try simp only [Act.put, List.setIfInBounds_toArray, List.set_cons_zero, List.set_cons_succ])
              refine wpAnyH_take (i := 23) (oi := ?oi95) (v := ?v95) ?hi95 (by kernel_rfl) (by kernel_rfl) (by kernel_rfl) ?hQ95 ?hy95 (by assumption) ?hrest95
              case hi95 => (simp only [List.getElem?_toArray, List.getElem?_cons_succ, List.getElem?_cons_zero]; try rfl)
              case hQ95 => exact fun _ _ _ h => h
              case hy95 =>
                refine Or.inl ⟨by rfl, ?_⟩
                (intro wq hSw; (try dsimp only at hSw); go_simp; try with_reducible rfl)
              (try simp only [Act.put, List.setIfInBounds_toArray, List.set_cons_zero, List.set_cons_succ])
              refine wpAnyH_take (i := 24) (oi := ?oi96) (v := ?v96) ?hi96 (by kernel_rfl) (by kernel_rfl) (by kernel_rfl) ?hQ96 ?hy96 (by assumption) ?hrest96
              case hi96 => (simp only [List.getElem?_toArray, List.getElem?_cons_succ, List.getElem?_cons_zero]; try rfl)
              case hQ96 => exact fun _ _ _ h => h
              case hy96 =>
                refine Or.inl ⟨by rfl, ?_⟩
                (intro wq hSw; (try dsimp only at hSw); go_simp; try with_reducible rfl)
              (try simp only [Act.put, List.setIfInBounds_toArray, List.set_cons_zero, List.set_cons_succ])
              refine wpAnyH_take (i := 25) (oi := ?oi97) (v := ?v97) ?hi97 (by kernel_rfl) (by kernel_rfl) (by kernel_rfl) ?hQ97 ?hy97 (by assumption) ?hrest97
              case hi97 => (simp only [List.getElem?_toArray, List.getElem?_cons_succ, List.getElem?_cons_zero]; try rfl)
              case hQ97 => exact fun _ _ _ h => h
              case hy97 =>
                refine Or.inl ⟨by rfl, ?_⟩
                (intro wq hSw; (try dsimp only at hSw); go_simp; try with_reducible rfl)
              (try simp only [Act.put, List.setIfInBounds_toArray, List.set_cons_zero, List.set_cons_succ])
              refine wpAnyH_take (i := 26) (oi := ?oi98) (v := ?v98) ?hi98 (by kernel_rfl) (by kernel_rfl) (by kernel_rfl) ?hQ98 ?hy98 (by assumption) ?hrest98
              case hi98 => (simp only [List.getElem?_toArray, List.getElem?_cons_succ, List.getElem?_cons_zero]; try rfl)
              case hQ98 => exact fun _ _ _ h => h
              case hy98 =>
                refine Or.inl ⟨by rfl, ?_⟩
                (intro wq hSw; (try dsimp only at hSw); go_simp; try with_reducible rfl)
              (try simp only [Act.put, List.setIfInBounds_toArray, List.set_cons_zero, List.set_cons_succ])
              refine wpAnyH_take (i := 27) (oi := ?oi99) (v := ?v99) ?hi99 (by kernel_rfl) (by kernel_rfl) (by kernel_rfl) ?hQ99 ?hy99 (by assumption) ?hrest99
              case hi99 => (simp only [List.getElem?_toArray, List.getElem?_cons_succ, List.getElem?_cons_zero]; try rfl)
              case hQ99 => exact fun _ _ _ h => h
              case hy99 =>
                refine Or.inl ⟨by rfl, ?_⟩
                (intro wq hSw; (try dsimp only at hSw); go_simp; try with_reducible rfl)
              (try simp only [Act.put, List.setIfInBounds_toArray, List.set_cons_zero, List.set_cons_succ])
              refine wpAnyH_take (i := 28) (oi := ?oi100) (v := ?v100) ?hi100 (by kernel_rfl) (by kernel_rfl) (by kernel_rfl) ?hQ100 ?hy100 (by assumption) ?hrest100
              case hi100 => (simp only [List.getElem?_toArray, List.getElem?_cons_succ, List.getElem?_cons_zero]; try rfl)
              case hQ100 => exact fun _ _ _ h => h
              case hy100 =>
                refine Or.inl ⟨by rfl, ?_⟩
                (intro wq hSw; (try dsimp only at hSw); go_simp; try with_reducible rfl)
              (try simp only [Act.put, List.setIfInBounds_toArray, List.set_cons_zero, List.set_cons_succ])
              refine wpAnyH_take (i := 29) (oi := ?oi101) (v := ?v101) ?hi101 (by kernel_rfl) (by kernel_rfl) (by kernel_rfl) ?hQ101 ?hy101 (by assumption) ?hrest101
              case hi101 => (simp only [List.getElem?_toArray, List.getElem?_cons_succ, List.getElem?_cons_zero]; try rfl)
              case hQ101 => exact fun _ _ _ h => h
              case hy101 =>
                refine Or.inl ⟨by rfl, ?_⟩
                (intro wq hSw; (try dsimp only at hSw); go_simp; try with_reducible rfl)
              (try simp only [Act.put, List.setIfInBounds_toArray, List.set_cons_zero, List.set_cons_succ])
              refine wpAnyH_take (i := 31) (oi := ?oi102) (v := ?v102) ?hi102 (by kernel_rfl) (by kernel_rfl) (by kernel_rfl) ?hQ102 ?hy102 (by assumption) ?hrest102
              case hi102 => (simp only [List.getElem?_toArray, List.getElem?_cons_succ, List.getElem?_cons_zero]; try rfl)
              case hQ102 => exact fun _ _ _ h => h
              case hy102 =>
                refine Or.inl ⟨by rfl, ?_⟩
                (intro wq hSw; (try dsimp only at hSw); go_simp; try with_reducible rfl)
              (try simp only [Act.put, List.setIfInBounds_toArray, List.set_cons_zero, List.set_cons_succ])
              refine wpAnyH_ready (rs := [30]) (by kernel_rfl) (by simp) ?_
              refine AllReadyH.cons (o := ?oi103) ?hi103 (fun K hK => ?hstep103) AllReadyH.nil
              case hi103 => (simp only [List.getElem?_toArray, List.getElem?_cons_succ, List.getElem?_cons_zero]; try rfl)
              go_simp
              (refine (F12.out _ hHeld).mono ?_; rintro e wx ⟨rfl, hbx⟩)
              refine hK.out _ _ ?_ (fun hHeld => ?_)
              · exact below_step hHeld hbx
              clear hK K
              (try simp only [Act.put, List.setIfInBounds_toArray, List.set_cons_zero, List.set_cons_succ])
              refine wpAnyH_ready (rs := [32]) (by kernel_rfl) (by simp) ?_
              refine AllReadyH.cons (o := ?oi104) ?hi104 (fun K hK => ?hstep104) AllReadyH.nil
              case hi104 => (simp only [List.getElem?_toArray, List.getElem?_cons_succ, List.getElem?_cons_zero]; try rfl)
              go_simp
              (refine (E12.out _ hHeld).mono ?_; rintro e wx ⟨rfl, hbx⟩)
              refine hK.out _ _ ?_ (fun hHeld => ?_)
              · exact below_step hHeld hbx
              clear hK K
              (try simp only [Act.put, List.setIfInBounds_toArray, List.set_cons_zero, List.set_cons_succ])
              refine wpAnyH_take (i := 33) (oi := ?oi105) (v := ?v105) ?hi105 (by kernel_rfl) (by kernel_rfl) (by kernel_rfl) ?hQ105 ?hy105 (by assumption) ?hrest105
              case hi105 => (simp only [List.getElem?_toArray, List.getElem?_cons_succ, List.getElem?_cons_zero]; try rfl)
              case hQ105 => exact fun _ _ _ h => h
              case hy105 =>
                refine Or.inl ⟨by rfl, ?_⟩
                (intro wq hSw; (try dsimp only at hSw); go_simp; try with_reducible rfl)
              (try simp only [Act.put, List.setIfInBounds_toArray, List.set_cons_zero, List.set_cons_succ])
              refine wpAnyH_take (i := 34) (oi := ?oi106) (v := ?v106) ?hi106 (by kernel_rfl) (by kernel_rfl) (by kernel_rfl) ?hQ106 ?hy106 (by assumption) ?hrest106
              case hi106 => (simp only [List.getElem?_toArray, List.getElem?_cons_succ, List.getElem?_cons_zero]; try rfl)
              case hQ106 => exact fun _ _ _ h => h
              case hy106 =>
                refine Or.inl ⟨by rfl, ?_⟩
                (intro wq hSw; (try dsimp only at hSw); go_simp; try with_reducible rfl)
              (try simp only [Act.put, List.setIfInBounds_toArray, List.set_cons_zero, List.set_cons_succ])
              refine wpAnyH_take (i := 35) (oi := ?oi107) (v := ?v107) ?hi107 (by kernel_rfl) (by kernel_rfl) (by kernel_rfl) ?hQ107 ?hy107 (by assumption) ?hrest107
              case hi107 => (simp only [List.getElem?_toArray, List.getElem?_cons_succ, List.getElem?_cons_zero]; try rfl)
              case hQ107 => exact fun _ _ _ h => h
              case hy107 =>
                refine Or.inl ⟨by rfl, ?_⟩
                (intro wq hSw; (try dsimp only at hSw); go_simp; try with_reducible rfl)
              (try simp only [Act.put, List.setIfInBounds_toArray, List.set_cons_zero, List.set_cons_succ])
              refine wpAnyH_take (i := 36) (oi := ?oi108) (v := ?v108) ?hi108 (by kernel_rfl) (by kernel_rfl) (by kernel_rfl) ?hQ108 ?hy108 (by assumption) ?hrest108
              case hi108 => (simp only [List.getElem?_toArray, List.getElem?_cons_succ, List.getElem?_cons_zero]; try rfl)
              case hQ108 => exact fun _ _ _ h => h
              case hy108 =>
                refine Or.inl ⟨by rfl, ?_⟩
                (intro wq hSw; (try dsimp only at hSw); go_simp; try with_reducible rfl)
              (try simp only [Act.put, List.setIfInBounds_toArray, List.set_cons_zero, List.set_cons_succ])
              refine wpAnyH_take (i := 37) (oi := ?oi109) (v := ?v109) ?hi109 (by kernel_rfl) (by kernel_rfl) (by kernel_rfl) ?hQ109 ?hy109 (by assumption) ?hrest109
              case hi109 => (simp only [List.getElem?_toArray, List.getElem?_cons_succ, List.getElem?_cons_zero]; try rfl)
              case hQ109 => exact fun _ _ _ h => h
              case hy109 =>
                refine Or.inl ⟨by rfl, ?_⟩
                (intro wq hSw; (try dsimp only at hSw); go_simp; try with_reducible rfl)
              (try simp only [Act.put, List.setIfInBounds_toArray, List.set_cons_zero, List.set_cons_succ])
              refine wpAnyH_ready (rs := [38]) (by kernel_rfl) (by simp) ?_
              refine AllReadyH.cons (o := ?oi110) ?hi110 (fun K hK => ?hstep110) AllReadyH.nil
              case hi110 => (simp only [List.getElem?_toArray, List.getElem?_cons_succ, List.getElem?_cons_zero]; try rfl)
              go_simp
              (refine (KS.out _ hHeld).mono ?_; rintro e wx ⟨rfl, hbx⟩)
              refine hK.out _ _ ?_ (fun hHeld => ?_)
              · exact below_step hHeld hbx
              clear hK K
              (try simp only [Act.put, List.setIfInBounds_toArray, List.set_cons_zero, List.set_cons_succ])
              refine wpAnyH_take (i := 39) (oi := ?oi111) (v := ?v111) ?hi111 (by kernel_rfl) (by kernel_rfl) (by kernel_rfl) ?hQ111 ?hy111 (by assumption) ?hrest111
              case hi111 => (simp only [List.getElem?_toArray, List.getElem?_cons_succ, List.getElem?_cons_zero]; try rfl)
              case hQ111 => exact fun _ _ _ h => h
              case hy111 =>
                refine Or.inl ⟨by rfl, ?_⟩
                (intro wq hSw; (try dsimp only at hSw); go_simp; try with_reducible rfl)
              (try simp only [Act.put, List.setIfInBounds_toArray, List.set_cons_zero, List.set_cons_succ])
              refine wpAnyH_take (i := 40) (oi := ?oi112) (v := ?v112) ?hi112 (by kernel_rfl) (by kernel_rfl) (by kernel_rfl) ?hQ112 ?hy112 (by assumption) ?hrest112
              case hi112 => (simp only [List.getElem?_toArray, List.getElem?_cons_succ, List.getElem?_cons_zero]; try rfl)
              case hQ112 => exact fun _ _ _ h => h
              case hy112 =>
                refine Or.inl ⟨by rfl, ?_⟩
                (intro wq hSw; (try dsimp only at hSw); go_simp; try with_reducible rfl)
              (try simp only [Act.put, List.setIfInBounds_toArray, List.set_cons_zero, List.set_cons_succ])
              refine wpAnyH_done (by kernel_rfl) ?_ _
              refine NoPanic.normal ?_
              (go_wp2_with fail; go_ret; exact ⟨rfl, below_step b12w hHeld⟩)
            exact AllReadyH.nil
      · go_wp2_with fail
        go_ret
        exact ⟨rfl, b10⟩
    · go_wp2_with fail
      go_ret
      exact ⟨rfl, b10⟩
  · have g1 : (1000 : Int) < xs.length := by omega
    go_wp2_with fail
    go_ret
    exact ⟨rfl, b5⟩
end Go.Proofs.Ytbfjhclibbonjaa
