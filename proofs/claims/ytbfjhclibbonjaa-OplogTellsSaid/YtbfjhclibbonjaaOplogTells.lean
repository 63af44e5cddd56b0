/-
  The walk of the law OplogTells.
-/
import Derived.Test.YtbfjhclibbonjaaLogN
namespace Go.Proofs.Ytbfjhclibbonjaa
open Go.RowKit Go.Cov
theorem app_len (s : Int) (L : EL) (d : ED) : (appR s L d).2.1.length ≤ L.length + 1 := by
  unfold appR
  by_cases h1 : rightL s L = true
  · rw [if_pos h1]
    by_cases h2 : L.length = 64 ∨ s + L.length = 1099511627776 ∨ 8192 < d.2.2.length
    · rw [if_pos h2]; simp
    · rw [if_neg h2]; simp
  · rw [if_neg h1]; simp
theorem cut_len (s : Int) (L : EL) (n : Int) : (cutR s L n).2.1.length ≤ L.length + 1 := by
  unfold cutR
  cases atL s L n with
  | none => simp
  | some i => simp; omega
theorem trim_len (s : Int) (L : EL) (n : Int) : (trimR s L n).2.1.length ≤ L.length + 1 := by
  unfold trimR
  cases atL s L n with
  | none => simp
  | some i => simp; omega
theorem samel_true {s : Int} {A B : Option Addr} {c d : Nat} {xs ys : List En} {M : EL} {w : World} (h : Lg w A c xs M) (g : Lg w B d ys M) (hz : M.length ≤ 100000) :
    Calls Try.prog 24 #[.agg #[.int .i64 s, .slice A xs.length c], .agg #[.int .i64 s, .slice B ys.length d]] w fun e w' => e = .returned (.bool true) ∧ Below w.heap.size w w' :=
  (samel_any (s := s) (t := s) h g (by have := h.len; omega)).mono (fun e w' hh => ⟨hh.1.trans (congrArg (fun b => Ending.returned (.bool b)) (by rw [decide_eq_true (show s = s from rfl), decide_eq_true (show M = M from rfl)]; rfl)), hh.2⟩)
theorem samee_true {A B : Option Addr} {c d : Nat} {xs ys : List En} {M : EL} {w : World} (h : Lg w A c xs M) (g : Lg w B d ys M) (hz : M.length ≤ 100000) :
    Calls Try.prog 15 #[.slice A xs.length c, .slice B ys.length d] w fun e w' => e = .returned (.bool true) ∧ Below w.heap.size w w' :=
  (samee_any h g (by have := h.len; omega)).mono (fun e w' hh => ⟨hh.1.trans (congrArg (fun b => Ending.returned (.bool b)) (decide_eq_true rfl)), hh.2⟩)
set_option maxRecDepth 100000 in
set_option maxHeartbeats 12800000 in
theorem tells_law {s : Int} {A : Option Addr} {c : Nat} {xs : List En} {L : EL} {w : World} (h : Lg w A c xs L) (n : Int) (x : En) (hx : Sl w x.val x.op) :
    Calls Try.prog 5 #[.agg #[.int .i64 s, .slice A xs.length c], .int .i64 n, x.agg] w fun e w' => e = .returned (.bool true) ∧ Below w.heap.size w w' := by
  obtain ⟨w1, hw1⟩ : ∃ w1, w.alloc (.cells #[.int .i64 s, .slice A xs.length c] 26) = w1 := ⟨_, rfl⟩
  obtain ⟨w2, hw2⟩ : ∃ w2, w1.alloc (.cells #[.int .i64 x.c, .int .i64 x.r, .slice x.A x.op.length x.cap] 32) = w2 := ⟨_, rfl⟩
  have b1 : Below w.heap.size w w1 := by rw [← hw1]; exact below_alloc _ _
  have b12 : Below w1.heap.size w1 w2 := by rw [← hw2]; exact below_alloc _ _
  have bw : Below w.heap.size w w2 := below_step b1 b12
  have n1 : w1.heap.size = w.heap.size + 1 := by rw [← hw1]; exact size_run
  have U := hid (show Var2 w2 w.heap.size (.int .i64 s) (.slice A xs.length c) from by
    have := Var2.new w (.int .i64 s) (.slice A xs.length c) 26
    rw [hw1] at this
    exact this.on b12)
  have X := hid (show Var3 w2 (w.heap.size + 1) (.int .i64 x.c) (.int .i64 x.r) (.slice x.A x.op.length x.cap) from by
    have := Var3.new w1 (.int .i64 x.c) (.int .i64 x.r) (.slice x.A x.op.length x.cap) 32
    rw [hw2, n1] at this
    exact this)
  have hlen := h.len
  have HL := hid hlen
  have hg : xs.length ≤ 1000 ∨ 1000 < xs.length := by omega
  have hfl := fromL_len s L n
  have hal := app_len s L x.data
  have hcl := cut_len s L n
  have htl := trim_len s L n
  rw [← hlen] at hfl hal hcl htl
  have ka := fun W (hW : Below w.heap.size w W) => att_any (s := s) (h.below hW) n
  have kra := fun W (hW : Below w.heap.size w W) => ratt_any (s := s) (h.below hW) n
  unfold En.agg at ka kra
  generalize atE s L n = o at ka kra
  have kf := fun W (hW : Below w.heap.size w W) => from_any (s := s) (h.below hW) n
  have krf := fun W (hW : Below w.heap.size w W) => rfrom_any (s := s) (h.below hW) n
  generalize fromL s L n = FL at kf krf hfl
  generalize (atL s L n).isSome = fb at kf krf
  have ke := fun W (hW : Below w.heap.size w W) => end_any (s := s) (h.below hW)
  have kre := fun W (hW : Below w.heap.size w W) => rend_any (s := s) (h.below hW)
  generalize endL s L = EE at ke kre
  have kd := fun W (hW : Below w.heap.size w W) => find_any (s := s) (h.below hW) x.c x.r
  have krd := fun W (hW : Below w.heap.size w W) => rfind_any (s := s) (h.below hW) x.c x.r
  generalize findL s L x.c x.r = FF at kd krd
  have kp := fun W (hW : Below w.heap.size w W) => append_any (s := s) (h.below hW) x (hx.keep (fun p u hp => cell_on hW hp))
  have krp := fun W (hW : Below w.heap.size w W) => rappend_any (s := s) (h.below hW) x (hx.keep (fun p u hp => cell_on hW hp))
  obtain ⟨p1, p2, p3, hp⟩ : ∃ p1 p2 p3, appR s L x.data = (p1, p2, p3) := ⟨_, _, _, rfl⟩
  rw [hp] at kp krp hal
  unfold En.agg at kp krp
  have kc := fun W (hW : Below w.heap.size w W) => cut_any (s := s) (h.below hW) n
  have krc := fun W (hW : Below w.heap.size w W) => rcut_any (s := s) (h.below hW) n
  obtain ⟨c1, c2, c3, hc⟩ : ∃ c1 c2 c3, cutR s L n = (c1, c2, c3) := ⟨_, _, _, rfl⟩
  rw [hc] at kc krc hcl
  have kt := fun W (hW : Below w.heap.size w W) => trim_any (s := s) (h.below hW) n
  have krt := fun W (hW : Below w.heap.size w W) => rtrim_any (s := s) (h.below hW) n
  obtain ⟨t1, t2, t3, ht⟩ : ∃ t1 t2 t3, trimR s L n = (t1, t2, t3) := ⟨_, _, _, rfl⟩
  rw [ht] at kt krt htl
  have Ka := hid ka
  have Kra := hid kra
  have Kf := hid kf
  have Krf := hid krf
  have Ke := hid ke
  have Kre := hid kre
  have Kd := hid kd
  have Krd := hid krd
  have Kp := hid kp
  have Krp := hid krp
  have Kc := hid kc
  have Krc := hid krc
  have Kt := hid kt
  have Krt := hid krt
  clear ka kra kf krf ke kre kd krd kp krp kc krc kt krt hp hc ht hlen
  unfold En.agg
  go_enter Try.func5, Try.ntmps5
  go_wp2_with fail
  refine (head_any w2).mono ?_
  rintro e w3 ⟨rfl, hb⟩
  have U := hid (U.out.on hb)
  have X := hid (X.out.on hb)
  have bw := below_step bw hb
  obtain ⟨u0, u1, _⟩ := U.out
  go_wp2_with fail
  refine great_any.mono ?_
  rintro e w4 ⟨rfl, hb⟩
  have U := hid (U.out.on hb)
  have X := hid (X.out.on hb)
  have bw := below_step bw hb
  rcases hg with hg | hg
  · have g1 : ¬ (1000 : Int) < xs.length := by omega
    obtain ⟨u0, u1, _⟩ := U.out
    go_wp2_with fail
    refine (Ka.out _ bw).mono ?_
    rintro e w5 ⟨z1, rfl, hd1, hs1, hb⟩
    have U := hid (U.out.on hb)
    have X := hid (X.out.on hb)
    have bw := below_step bw hb
    have hs1 := hid hs1
    have ha := below_alloc w5 (.cells #[.int .i64 z1.c, .int .i64 z1.r, .slice z1.A z1.op.length z1.cap] 32)
    have Z1 := hid (Var3.new w5 (.int .i64 z1.c) (.int .i64 z1.r) (.slice z1.A z1.op.length z1.cap) 32)
    obtain ⟨w6, hw6⟩ : ∃ w6, w5.alloc (.cells #[.int .i64 z1.c, .int .i64 z1.r, .slice z1.A z1.op.length z1.cap] 32) = w6 := ⟨_, rfl⟩
    rw [hw6] at ha Z1
    have U := hid (U.out.on ha)
    have X := hid (X.out.on ha)
    have hs1 := hid (hs1.out.keep (fun p u hp => cell_on ha hp))
    have bw := below_step bw ha
    obtain ⟨u0, u1, _⟩ := U.out
    go_wp2_with fail
    refine (Kra.out _ bw).mono ?_
    rintro e w7 ⟨z2, rfl, hd2, hs2, hb⟩
    have U := hid (U.out.on hb)
    have X := hid (X.out.on hb)
    have Z1 := hid (Z1.out.on hb)
    have hs1 := hid (hs1.out.keep (fun p u hp => cell_on hb hp))
    have bw := below_step bw hb
    have hs2 := hid hs2
    have ha := below_alloc w7 (.cells #[.int .i64 z2.c, .int .i64 z2.r, .slice z2.A z2.op.length z2.cap] 32)
    have Z2 := hid (Var3.new w7 (.int .i64 z2.c) (.int .i64 z2.r) (.slice z2.A z2.op.length z2.cap) 32)
    obtain ⟨w8, hw8⟩ : ∃ w8, w7.alloc (.cells #[.int .i64 z2.c, .int .i64 z2.r, .slice z2.A z2.op.length z2.cap] 32) = w8 := ⟨_, rfl⟩
    rw [hw8] at ha Z2
    have U := hid (U.out.on ha)
    have X := hid (X.out.on ha)
    have Z1 := hid (Z1.out.on ha)
    have hs1 := hid (hs1.out.keep (fun p u hp => cell_on ha hp))
    have hs2 := hid (hs2.out.keep (fun p u hp => cell_on ha hp))
    have bw := below_step bw ha
    obtain ⟨u0, u1, _⟩ := U.out
    go_wp2_with fail
    refine (Kf.out _ bw).mono ?_
    rintro e w9 ⟨C1, q1, us, rfl, hus, _, hb⟩
    have U := hid (U.out.on hb)
    have X := hid (X.out.on hb)
    have Z1 := hid (Z1.out.on hb)
    have Z2 := hid (Z2.out.on hb)
    have hs1 := hid (hs1.out.keep (fun p u hp => cell_on hb hp))
    have hs2 := hid (hs2.out.keep (fun p u hp => cell_on hb hp))
    have bw := below_step bw hb
    have hus := hid hus
    obtain ⟨u0, u1, _⟩ := U.out
    go_wp2_with fail
    refine (Krf.out _ bw).mono ?_
    rintro e w10 ⟨C2, q2, vs, rfl, hvs, hb⟩
    have U := hid (U.out.on hb)
    have X := hid (X.out.on hb)
    have Z1 := hid (Z1.out.on hb)
    have Z2 := hid (Z2.out.on hb)
    have hus := hid (hus.out.below hb)
    have hs1 := hid (hs1.out.keep (fun p u hp => cell_on hb hp))
    have hs2 := hid (hs2.out.keep (fun p u hp => cell_on hb hp))
    have bw := below_step bw hb
    have hvs := hid hvs
    have D1 := hid hd1
    have D2 := hid hd2
    clear hd1 hd2
    obtain ⟨u0, u1, _⟩ := U.out
    obtain ⟨x0, x1, x2, _⟩ := X.out
    obtain ⟨z0, z1', z2', _⟩ := Z1.out
    obtain ⟨y0, y1, y2, _⟩ := Z2.out
    have u0q := fun W (hW : Below w10.heap.size w10 W) => cell_on hW u0
    have u1q := fun W (hW : Below w10.heap.size w10 W) => cell_on hW u1
    have x0q := fun W (hW : Below w10.heap.size w10 W) => cell_on hW x0
    have x1q := fun W (hW : Below w10.heap.size w10 W) => cell_on hW x1
    have z0q := fun W (hW : Below w10.heap.size w10 W) => cell_on hW z0
    have z1'q := fun W (hW : Below w10.heap.size w10 W) => cell_on hW z1'
    have z2'q := fun W (hW : Below w10.heap.size w10 W) => cell_on hW z2'
    have y0q := fun W (hW : Below w10.heap.size w10 W) => cell_on hW y0
    have y1q := fun W (hW : Below w10.heap.size w10 W) => cell_on hW y1
    have y2q := fun W (hW : Below w10.heap.size w10 W) => cell_on hW y2
    have KT := hid (fun W A1 A2 (g1 : Lg W A1 1 [z1] [z1.data]) (g2 : Lg W A2 1 [z2] [z2.data]) => samee_true (M := [z2.data]) (by rw [D1.out, ← D2.out] at g1; exact g1) g2 (by simp))
    have KS := hid (fun W (hW : Below w10.heap.size w10 W) => samee_true (hus.out.below hW) (hvs.out.below hW) (by omega))
    clear u0 u1 x0 x1 x2 z0 z1' z2' y0 y1 y2
    go_upto_region 8 with fail
    go_cut [16] (fun s16 wx => s16 = .bool true ∧ Below w10.heap.size w10 wx)
    case first =>
      refine wp_region_noPanic ?_
      refine wp_region_held_drew (S := (fun W => Below w10.heap.size w10 W)) (by kernel_rfl) ?_ (fun hHeld => ?_)
      · exact (Below.refl _ _).drew
      refine wpAnyH_take (i := 0) (oi := ?oi1) (v := ?v1) ?hi1 (by kernel_rfl) (by kernel_rfl) (by kernel_rfl) ?hQ1 ?hy1 (by assumption) ?hrest1
      case hi1 => (simp only [List.getElem?_toArray, List.getElem?_cons_zero]; try rfl)
      case hQ1 => exact fun _ _ _ h => h
      case hy1 =>
        refine Or.inl ⟨by rfl, ?_⟩
        (intro wq hSw; (try dsimp only at hSw); go_simp; try with_reducible rfl)
      (try simp only [Act.put, List.setIfInBounds_toArray, List.set_cons_zero, List.set_cons_succ])
      refine wpAnyH_take (i := 2) (oi := ?oi2) (v := ?v2) ?hi2 (by kernel_rfl) (by kernel_rfl) (by kernel_rfl) ?hQ2 ?hy2 (by assumption) ?hrest2
      case hi2 => (simp only [List.getElem?_toArray, List.getElem?_cons_succ, List.getElem?_cons_zero]; try rfl)
      case hQ2 => exact fun _ _ _ h => h
      case hy2 =>
        refine Or.inl ⟨by rfl, ?_⟩
        (intro wq hSw; (try dsimp only at hSw); go_simp; try with_reducible rfl)
      (try simp only [Act.put, List.setIfInBounds_toArray, List.set_cons_zero, List.set_cons_succ])
      refine wpAnyH_ready (rs := [1, 3]) (by kernel_rfl) (by simp) ?_
      refine AllReadyH.cons (o := ?oi3) ?hi3 (fun K hK => ?hstep3) ?hmore3
      case hi3 => (simp only [List.getElem?_toArray, List.getElem?_cons_succ, List.getElem?_cons_zero]; try rfl)
      case hstep3 =>
        go_simp
        (have hh0 := hHeld; (first | refine newvar_Kd ?_ | refine newvar_K ?_); intro wx hbx nv nf nz; have hwx := below_step hh0 hbx; have lgz := one_lg (x := z1) (nv 0 _ rfl) (nv 1 _ rfl) (nv 2 _ rfl) (hs1.out.keep (fun p u hp => cell_on hwx hp)); (try have lgy := lgy.below hbx); clear nv nf)
        refine hK.out _ _ ?_ (fun hHeld => ?_)
        · exact below_step hHeld hbx
        clear hK K
        (try simp only [Act.put, List.setIfInBounds_toArray, List.set_cons_zero, List.set_cons_succ])
        refine wpAnyH_ready (rs := [3]) (by kernel_rfl) (by simp) ?_
        refine AllReadyH.cons (o := ?oi4) ?hi4 (fun K hK => ?hstep4) AllReadyH.nil
        case hi4 => (simp only [List.getElem?_toArray, List.getElem?_cons_succ, List.getElem?_cons_zero]; try rfl)
        go_simp
        (have hh0 := hHeld; (first | refine newvar_Kd ?_ | refine newvar_K ?_); intro wx hbx nv nf nz; have hwx := below_step hh0 hbx; have lgy := one_lg (x := z2) (nv 0 _ rfl) (nv 1 _ rfl) (nv 2 _ rfl) (hs2.out.keep (fun p u hp => cell_on hwx hp)); (try have lgz := lgz.below hbx); clear nv nf)
        refine hK.out _ _ ?_ (fun hHeld => ?_)
        · exact below_step hHeld hbx
        clear hK K
        (try simp only [Act.put, List.setIfInBounds_toArray, List.set_cons_zero, List.set_cons_succ])
        refine wpAnyH_ready (rs := [4]) (by kernel_rfl) (by simp) ?_
        refine AllReadyH.cons (o := ?oi5) ?hi5 (fun K hK => ?hstep5) AllReadyH.nil
        case hi5 => (simp only [List.getElem?_toArray, List.getElem?_cons_succ, List.getElem?_cons_zero]; try rfl)
        go_simp
        (refine (KT.out _ _ _ lgz lgy).mono ?_; rintro e wx ⟨rfl, hbx⟩)
        refine hK.out _ _ ?_ (fun hHeld => ?_)
        · exact below_step hHeld hbx
        clear hK K
        (try simp only [Act.put, List.setIfInBounds_toArray, List.set_cons_zero, List.set_cons_succ])
        refine wpAnyH_take (i := 5) (oi := ?oi6) (v := ?v6) ?hi6 (by kernel_rfl) (by kernel_rfl) (by kernel_rfl) ?hQ6 ?hy6 (by assumption) ?hrest6
        case hi6 => (simp only [List.getElem?_toArray, List.getElem?_cons_succ, List.getElem?_cons_zero]; try rfl)
        case hQ6 => exact fun _ _ _ h => h
        case hy6 =>
          refine Or.inl ⟨by rfl, ?_⟩
          (intro wq hSw; (try dsimp only at hSw); go_simp; try with_reducible rfl)
        (try simp only [Act.put, List.setIfInBounds_toArray, List.set_cons_zero, List.set_cons_succ])
        refine wpAnyH_take (i := 6) (oi := ?oi7) (v := ?v7) ?hi7 (by kernel_rfl) (by kernel_rfl) (by kernel_rfl) ?hQ7 ?hy7 (by assumption) ?hrest7
        case hi7 => (simp only [List.getElem?_toArray, List.getElem?_cons_succ, List.getElem?_cons_zero]; try rfl)
        case hQ7 => exact fun _ _ _ h => h
        case hy7 =>
          refine Or.inl ⟨by rfl, ?_⟩
          (intro wq hSw; (try dsimp only at hSw); go_simp; try with_reducible rfl)
        (try simp only [Act.put, List.setIfInBounds_toArray, List.set_cons_zero, List.set_cons_succ])
        refine wpAnyH_take (i := 7) (oi := ?oi8) (v := ?v8) ?hi8 (by kernel_rfl) (by kernel_rfl) (by kernel_rfl) ?hQ8 ?hy8 (by assumption) ?hrest8
        case hi8 => (simp only [List.getElem?_toArray, List.getElem?_cons_succ, List.getElem?_cons_zero]; try rfl)
        case hQ8 => exact fun _ _ _ h => h
        case hy8 =>
          refine Or.inl ⟨by rfl, ?_⟩
          (intro wq hSw; (try dsimp only at hSw); go_simp; try with_reducible rfl)
        (try simp only [Act.put, List.setIfInBounds_toArray, List.set_cons_zero, List.set_cons_succ])
        refine wpAnyH_take (i := 8) (oi := ?oi9) (v := ?v9) ?hi9 (by kernel_rfl) (by kernel_rfl) (by kernel_rfl) ?hQ9 ?hy9 (by assumption) ?hrest9
        case hi9 => (simp only [List.getElem?_toArray, List.getElem?_cons_succ, List.getElem?_cons_zero]; try rfl)
        case hQ9 => exact fun _ _ _ h => h
        case hy9 =>
          refine Or.inl ⟨by rfl, ?_⟩
          (intro wq hSw; (try dsimp only at hSw); go_simp; try with_reducible rfl)
        (try simp only [Act.put, List.setIfInBounds_toArray, List.set_cons_zero, List.set_cons_succ])
        refine wpAnyH_take (i := 9) (oi := ?oi10) (v := ?v10) ?hi10 (by kernel_rfl) (by kernel_rfl) (by kernel_rfl) ?hQ10 ?hy10 (by assumption) ?hrest10
        case hi10 => (simp only [List.getElem?_toArray, List.getElem?_cons_succ, List.getElem?_cons_zero]; try rfl)
        case hQ10 => exact fun _ _ _ h => h
        case hy10 =>
          refine Or.inl ⟨by rfl, ?_⟩
          (intro wq hSw; (try dsimp only at hSw); go_simp; try with_reducible rfl)
        (try simp only [Act.put, List.setIfInBounds_toArray, List.set_cons_zero, List.set_cons_succ])
        refine wpAnyH_take (i := 10) (oi := ?oi11) (v := ?v11) ?hi11 (by kernel_rfl) (by kernel_rfl) (by kernel_rfl) ?hQ11 ?hy11 (by assumption) ?hrest11
        case hi11 => (simp only [List.getElem?_toArray, List.getElem?_cons_succ, List.getElem?_cons_zero]; try rfl)
        case hQ11 => exact fun _ _ _ h => h
        case hy11 =>
          refine Or.inl ⟨by rfl, ?_⟩
          (intro wq hSw; (try dsimp only at hSw); go_simp; try with_reducible rfl)
        (try simp only [Act.put, List.setIfInBounds_toArray, List.set_cons_zero, List.set_cons_succ])
        refine wpAnyH_take (i := 11) (oi := ?oi12) (v := ?v12) ?hi12 (by kernel_rfl) (by kernel_rfl) (by kernel_rfl) ?hQ12 ?hy12 (by assumption) ?hrest12
        case hi12 => (simp only [List.getElem?_toArray, List.getElem?_cons_succ, List.getElem?_cons_zero]; try rfl)
        case hQ12 => exact fun _ _ _ h => h
        case hy12 =>
          refine Or.inl ⟨by rfl, ?_⟩
          (intro wq hSw; (try dsimp only at hSw); go_simp; try with_reducible rfl)
        (try simp only [Act.put, List.setIfInBounds_toArray, List.set_cons_zero, List.set_cons_succ])
        refine wpAnyH_take (i := 12) (oi := ?oi13) (v := ?v13) ?hi13 (by kernel_rfl) (by kernel_rfl) (by kernel_rfl) ?hQ13 ?hy13 (by assumption) ?hrest13
        case hi13 => (simp only [List.getElem?_toArray, List.getElem?_cons_succ, List.getElem?_cons_zero]; try rfl)
        case hQ13 => exact fun _ _ _ h => h
        case hy13 =>
          refine Or.inl ⟨by rfl, ?_⟩
          (intro wq hSw; (try dsimp only at hSw); go_simp; try with_reducible rfl)
        (try simp only [Act.put, List.setIfInBounds_toArray, List.set_cons_zero, List.set_cons_succ])
        refine wpAnyH_ready (rs := [13]) (by kernel_rfl) (by simp) ?_
        refine AllReadyH.cons (o := ?oi14) ?hi14 (fun K hK => ?hstep14) AllReadyH.nil
        case hi14 => (simp only [List.getElem?_toArray, List.getElem?_cons_succ, List.getElem?_cons_zero]; try rfl)
        go_simp
        (refine (KS.out _ hHeld).mono ?_; rintro e wx ⟨rfl, hbx⟩)
        refine hK.out _ _ ?_ (fun hHeld => ?_)
        · exact below_step hHeld hbx
        clear hK K
        (try simp only [Act.put, List.setIfInBounds_toArray, List.set_cons_zero, List.set_cons_succ])
        refine wpAnyH_take (i := 14) (oi := ?oi15) (v := ?v15) ?hi15 (by kernel_rfl) (by kernel_rfl) (by kernel_rfl) ?hQ15 ?hy15 (by assumption) ?hrest15
        case hi15 => (simp only [List.getElem?_toArray, List.getElem?_cons_succ, List.getElem?_cons_zero]; try rfl)
        case hQ15 => exact fun _ _ _ h => h
        case hy15 =>
          refine Or.inl ⟨by rfl, ?_⟩
          (intro wq hSw; (try dsimp only at hSw); go_simp; try with_reducible rfl)
        (try simp only [Act.put, List.setIfInBounds_toArray, List.set_cons_zero, List.set_cons_succ])
        refine wpAnyH_take (i := 15) (oi := ?oi16) (v := ?v16) ?hi16 (by kernel_rfl) (by kernel_rfl) (by kernel_rfl) ?hQ16 ?hy16 (by assumption) ?hrest16
        case hi16 => (simp only [List.getElem?_toArray, List.getElem?_cons_succ, List.getElem?_cons_zero]; try rfl)
        case hQ16 => exact fun _ _ _ h => h
        case hy16 =>
          refine Or.inl ⟨by rfl, ?_⟩
          (intro wq hSw; (try dsimp only at hSw); go_simp; try with_reducible rfl)
        (try simp only [Act.put, List.setIfInBounds_toArray, List.set_cons_zero, List.set_cons_succ])
        refine wpAnyH_take (i := 16) (oi := ?oi17) (v := ?v17) ?hi17 (by kernel_rfl) (by kernel_rfl) (by kernel_rfl) ?hQ17 ?hy17 (by assumption) ?hrest17
        case hi17 => (simp only [List.getElem?_toArray, List.getElem?_cons_succ, List.getElem?_cons_zero]; try rfl)
        case hQ17 => exact fun _ _ _ h => h
        case hy17 =>
          refine Or.inl ⟨by rfl, ?_⟩
          (intro wq hSw; (try dsimp only at hSw); go_simp; try with_reducible rfl)
        (try simp only [Act.put, List.setIfInBounds_toArray, List.set_cons_zero, List.set_cons_succ])
        refine wpAnyH_take (i := 17) (oi := ?oi18) (v := ?v18) ?hi18 (by kernel_rfl) (by kernel_rfl) (by kernel_rfl) ?hQ18 ?hy18 (by assumption) ?hrest18
        case hi18 => (simp only [List.getElem?_toArray, List.getElem?_cons_succ, List.getElem?_cons_zero]; try rfl)
        case hQ18 => exact fun _ _ _ h => h
        case hy18 =>
          refine Or.inl ⟨by rfl, ?_⟩
          (intro wq hSw; (try dsimp only at hSw); go_simp; try with_reducible rfl)
        (try simp only [Act.put, List.setIfInBounds_toArray, List.set_cons_zero, List.set_cons_succ])
        refine wpAnyH_take (i := 18) (oi := ?oi19) (v := ?v19) ?hi19 (by kernel_rfl) (by kernel_rfl) (by kernel_rfl) ?hQ19 ?hy19 (by assumption) ?hrest19
        case hi19 => (simp only [List.getElem?_toArray, List.getElem?_cons_succ, List.getElem?_cons_zero]; try rfl)
        case hQ19 => exact fun _ _ _ h => h
        case hy19 =>
          refine Or.inl ⟨by rfl, ?_⟩
          (intro wq hSw; (try dsimp only at hSw); go_simp; try with_reducible rfl)
        (try simp only [Act.put, List.setIfInBounds_toArray, List.set_cons_zero, List.set_cons_succ])
        refine wpAnyH_take (i := 19) (oi := ?oi20) (v := ?v20) ?hi20 (by kernel_rfl) (by kernel_rfl) (by kernel_rfl) ?hQ20 ?hy20 (by assumption) ?hrest20
        case hi20 => (simp only [List.getElem?_toArray, List.getElem?_cons_succ, List.getElem?_cons_zero]; try rfl)
        case hQ20 => exact fun _ _ _ h => h
        case hy20 =>
          refine Or.inl ⟨by rfl, ?_⟩
          (intro wq hSw; (try dsimp only at hSw); go_simp; try with_reducible rfl)
        (try simp only [Act.put, List.setIfInBounds_toArray, List.set_cons_zero, List.set_cons_succ])
        refine wpAnyH_take (i := 20) (oi := ?oi21) (v := ?v21) ?hi21 (by kernel_rfl) (by kernel_rfl) (by kernel_rfl) ?hQ21 ?hy21 (by assumption) ?hrest21
        case hi21 => (simp only [List.getElem?_toArray, List.getElem?_cons_succ, List.getElem?_cons_zero]; try rfl)
        case hQ21 => exact fun _ _ _ h => h
        case hy21 =>
          refine Or.inl ⟨by rfl, ?_⟩
          (intro wq hSw; (try dsimp only at hSw); go_simp; try with_reducible rfl)
        (try simp only [Act.put, List.setIfInBounds_toArray, List.set_cons_zero, List.set_cons_succ])
        refine wpAnyH_take (i := 21) (oi := ?oi22) (v := ?v22) ?hi22 (by kernel_rfl) (by kernel_rfl) (by kernel_rfl) ?hQ22 ?hy22 (by assumption) ?hrest22
        case hi22 => (simp only [List.getElem?_toArray, List.getElem?_cons_succ, List.getElem?_cons_zero]; try rfl)
        case hQ22 => exact fun _ _ _ h => h
        case hy22 =>
          refine Or.inl ⟨by rfl, ?_⟩
          (intro wq hSw; (try dsimp only at hSw); go_simp; try with_reducible rfl)
        (try simp only [Act.put, List.setIfInBounds_toArray, List.set_cons_zero, List.set_cons_succ])
        refine wpAnyH_take (i := 23) (oi := ?oi23) (v := ?v23) ?hi23 (by kernel_rfl) (by kernel_rfl) (by kernel_rfl) ?hQ23 ?hy23 (by assumption) ?hrest23
        case hi23 => (simp only [List.getElem?_toArray, List.getElem?_cons_succ, List.getElem?_cons_zero]; try rfl)
        case hQ23 => exact fun _ _ _ h => h
        case hy23 =>
          refine Or.inl ⟨by rfl, ?_⟩
          (intro wq hSw; (try dsimp only at hSw); go_simp; try with_reducible rfl)
        (try simp only [Act.put, List.setIfInBounds_toArray, List.set_cons_zero, List.set_cons_succ])
        refine wpAnyH_ready (rs := [22]) (by kernel_rfl) (by simp) ?_
        refine AllReadyH.cons (o := ?oi24) ?hi24 (fun K hK => ?hstep24) AllReadyH.nil
        case hi24 => (simp only [List.getElem?_toArray, List.getElem?_cons_succ, List.getElem?_cons_zero]; try rfl)
        go_simp
        (refine (Ke.out _ (below_step bw hHeld)).mono ?_; rintro e wx ⟨rfl, hbx⟩)
        refine hK.out _ _ ?_ (fun hHeld => ?_)
        · exact below_step hHeld hbx
        clear hK K
        (try simp only [Act.put, List.setIfInBounds_toArray, List.set_cons_zero, List.set_cons_succ])
        refine wpAnyH_ready (rs := [24]) (by kernel_rfl) (by simp) ?_
        refine AllReadyH.cons (o := ?oi25) ?hi25 (fun K hK => ?hstep25) AllReadyH.nil
        case hi25 => (simp only [List.getElem?_toArray, List.getElem?_cons_succ, List.getElem?_cons_zero]; try rfl)
        go_simp
        (refine (Kre.out _ (below_step bw hHeld)).mono ?_; rintro e wx ⟨rfl, hbx⟩)
        refine hK.out _ _ ?_ (fun hHeld => ?_)
        · exact below_step hHeld hbx
        clear hK K
        (try simp only [Act.put, List.setIfInBounds_toArray, List.set_cons_zero, List.set_cons_succ])
        refine wpAnyH_take (i := 25) (oi := ?oi26) (v := ?v26) ?hi26 (by kernel_rfl) (by kernel_rfl) (by kernel_rfl) ?hQ26 ?hy26 (by assumption) ?hrest26
        case hi26 => (simp only [List.getElem?_toArray, List.getElem?_cons_succ, List.getElem?_cons_zero]; try rfl)
        case hQ26 => exact fun _ _ _ h => h
        case hy26 =>
          refine Or.inl ⟨by rfl, ?_⟩
          (intro wq hSw; (try dsimp only at hSw); go_simp; try with_reducible rfl)
        (try simp only [Act.put, List.setIfInBounds_toArray, List.set_cons_zero, List.set_cons_succ])
        refine wpAnyH_take (i := 26) (oi := ?oi27) (v := ?v27) ?hi27 (by kernel_rfl) (by kernel_rfl) (by kernel_rfl) ?hQ27 ?hy27 (by assumption) ?hrest27
        case hi27 => (simp only [List.getElem?_toArray, List.getElem?_cons_succ, List.getElem?_cons_zero]; try rfl)
        case hQ27 => exact fun _ _ _ h => h
        case hy27 =>
          refine Or.inl ⟨by rfl, ?_⟩
          (intro wq hSw; (try dsimp only at hSw); go_simp; try with_reducible rfl)
        (try simp only [Act.put, List.setIfInBounds_toArray, List.set_cons_zero, List.set_cons_succ])
        refine wpAnyH_take (i := 27) (oi := ?oi28) (v := ?v28) ?hi28 (by kernel_rfl) (by kernel_rfl) (by kernel_rfl) ?hQ28 ?hy28 (by assumption) ?hrest28
        case hi28 => (simp only [List.getElem?_toArray, List.getElem?_cons_succ, List.getElem?_cons_zero]; try rfl)
        case hQ28 => exact fun _ _ _ h => h
        case hy28 =>
          refine Or.inl ⟨by rfl, ?_⟩
          (intro wq hSw; (try dsimp only at hSw); go_simp; try with_reducible rfl)
        (try simp only [Act.put, List.setIfInBounds_toArray, List.set_cons_zero, List.set_cons_succ])
        refine wpAnyH_take (i := 28) (oi := ?oi29) (v := ?v29) ?hi29 (by kernel_rfl) (by kernel_rfl) (by kernel_rfl) ?hQ29 ?hy29 (by assumption) ?hrest29
        case hi29 => (simp only [List.getElem?_toArray, List.getElem?_cons_succ, List.getElem?_cons_zero]; try rfl)
        case hQ29 => exact fun _ _ _ h => h
        case hy29 =>
          refine Or.inl ⟨by rfl, ?_⟩
          (intro wq hSw; (try dsimp only at hSw); go_simp; try with_reducible rfl)
        (try simp only [Act.put, List.setIfInBounds_toArray, List.set_cons_zero, List.set_cons_succ])
        refine wpAnyH_take (i := 29) (oi := ?oi30) (v := ?v30) ?hi30 (by kernel_rfl) (by kernel_rfl) (by kernel_rfl) ?hQ30 ?hy30 (by assumption) ?hrest30
        case hi30 => (simp only [List.getElem?_toArray, List.getElem?_cons_succ, List.getElem?_cons_zero]; try rfl)
        case hQ30 => exact fun _ _ _ h => h
        case hy30 =>
          refine Or.inl ⟨by rfl, ?_⟩
          (intro wq hSw; (try dsimp only at hSw); go_simp; try with_reducible rfl)
        (try simp only [Act.put, List.setIfInBounds_toArray, List.set_cons_zero, List.set_cons_succ])
        refine wpAnyH_take (i := 30) (oi := ?oi31) (v := ?v31) ?hi31 (by kernel_rfl) (by kernel_rfl) (by kernel_rfl) ?hQ31 ?hy31 (by assumption) ?hrest31
        case hi31 => (simp only [List.getElem?_toArray, List.getElem?_cons_succ, List.getElem?_cons_zero]; try rfl)
        case hQ31 => exact fun _ _ _ h => h
        case hy31 =>
          refine Or.inl ⟨by rfl, ?_⟩
          (intro wq hSw; (try dsimp only at hSw); go_simp; try with_reducible rfl)
        (try simp only [Act.put, List.setIfInBounds_toArray, List.set_cons_zero, List.set_cons_succ])
        refine wpAnyH_take (i := 31) (oi := ?oi32) (v := ?v32) ?hi32 (by kernel_rfl) (by kernel_rfl) (by kernel_rfl) ?hQ32 ?hy32 (by assumption) ?hrest32
        case hi32 => (simp only [List.getElem?_toArray, List.getElem?_cons_succ, List.getElem?_cons_zero]; try rfl)
        case hQ32 => exact fun _ _ _ h => h
        case hy32 =>
          refine Or.inl ⟨by rfl, ?_⟩
          (intro wq hSw; (try dsimp only at hSw); go_simp; try with_reducible rfl)
        (try simp only [Act.put, List.setIfInBounds_toArray, List.set_cons_zero, List.set_cons_succ])
        refine wpAnyH_take (i := 32) (oi := ?oi33) (v := ?v33) ?hi33 (by kernel_rfl) (by kernel_rfl) (by kernel_rfl) ?hQ33 ?hy33 (by assumption) ?hrest33
        case hi33 => (simp only [List.getElem?_toArray, List.getElem?_cons_succ, List.getElem?_cons_zero]; try rfl)
        case hQ33 => exact fun _ _ _ h => h
        case hy33 =>
          refine Or.inl ⟨by rfl, ?_⟩
          (intro wq hSw; (try dsimp only at hSw); go_simp; try with_reducible rfl)
        (try simp only [Act.put, List.setIfInBounds_toArray, List.set_cons_zero, List.set_cons_succ])
        refine wpAnyH_take (i := 34) (oi := ?oi34) (v := ?v34) ?hi34 (by kernel_rfl) (by kernel_rfl) (by kernel_rfl) ?hQ34 ?hy34 (by assumption) ?hrest34
        case hi34 => (simp only [List.getElem?_toArray, List.getElem?_cons_succ, List.getElem?_cons_zero]; try rfl)
        case hQ34 => exact fun _ _ _ h => h
        case hy34 =>
          refine Or.inl ⟨by rfl, ?_⟩
          (intro wq hSw; (try dsimp only at hSw); go_simp; try with_reducible rfl)
        (try simp only [Act.put, List.setIfInBounds_toArray, List.set_cons_zero, List.set_cons_succ])
        refine wpAnyH_take (i := 35) (oi := ?oi35) (v := ?v35) ?hi35 (by kernel_rfl) (by kernel_rfl) (by kernel_rfl) ?hQ35 ?hy35 (by assumption) ?hrest35
        case hi35 => (simp only [List.getElem?_toArray, List.getElem?_cons_succ, List.getElem?_cons_zero]; try rfl)
        case hQ35 => exact fun _ _ _ h => h
        case hy35 =>
          refine Or.inl ⟨by rfl, ?_⟩
          (intro wq hSw; (try dsimp only at hSw); go_simp; try with_reducible rfl)
        (try simp only [Act.put, List.setIfInBounds_toArray, List.set_cons_zero, List.set_cons_succ])
        refine wpAnyH_take (i := 36) (oi := ?oi36) (v := ?v36) ?hi36 (by kernel_rfl) (by kernel_rfl) (by kernel_rfl) ?hQ36 ?hy36 (by assumption) ?hrest36
        case hi36 => (simp only [List.getElem?_toArray, List.getElem?_cons_succ, List.getElem?_cons_zero]; try rfl)
        case hQ36 => exact fun _ _ _ h => h
        case hy36 =>
          refine Or.inl ⟨by rfl, ?_⟩
          (intro wq hSw; (try dsimp only at hSw); go_simp; try with_reducible rfl)
        (try simp only [Act.put, List.setIfInBounds_toArray, List.set_cons_zero, List.set_cons_succ])
        refine wpAnyH_take (i := 37) (oi := ?oi37) (v := ?v37) ?hi37 (by kernel_rfl) (by kernel_rfl) (by kernel_rfl) ?hQ37 ?hy37 (by assumption) ?hrest37
        case hi37 => (simp only [List.getElem?_toArray, List.getElem?_cons_succ, List.getElem?_cons_zero]; try rfl)
        case hQ37 => exact fun _ _ _ h => h
        case hy37 =>
          refine Or.inl ⟨by rfl, ?_⟩
          (intro wq hSw; (try dsimp only at hSw); go_simp; try with_reducible rfl)
        (try simp only [Act.put, List.setIfInBounds_toArray, List.set_cons_zero, List.set_cons_succ])
        refine wpAnyH_take (i := 38) (oi := ?oi38) (v := ?v38) ?hi38 (by kernel_rfl) (by kernel_rfl) (by kernel_rfl) ?hQ38 ?hy38 (by assumption) ?hrest38
        case hi38 => (simp only [List.getElem?_toArray, List.getElem?_cons_succ, List.getElem?_cons_zero]; try rfl)
        case hQ38 => exact fun _ _ _ h => h
        case hy38 =>
          refine Or.inl ⟨by rfl, ?_⟩
          (intro wq hSw; (try dsimp only at hSw); go_simp; try with_reducible rfl)
        (try simp only [Act.put, List.setIfInBounds_toArray, List.set_cons_zero, List.set_cons_succ])
        refine wpAnyH_ready (rs := [33]) (by kernel_rfl) (by simp) ?_
        refine AllReadyH.cons (o := ?oi39) ?hi39 (fun K hK => ?hstep39) AllReadyH.nil
        case hi39 => (simp only [List.getElem?_toArray, List.getElem?_cons_succ, List.getElem?_cons_zero]; try rfl)
        go_simp
        (refine (Kd.out _ (below_step bw hHeld)).mono ?_; rintro e wx ⟨rfl, hbx⟩)
        refine hK.out _ _ ?_ (fun hHeld => ?_)
        · exact below_step hHeld hbx
        clear hK K
        (try simp only [Act.put, List.setIfInBounds_toArray, List.set_cons_zero, List.set_cons_succ])
        refine wpAnyH_ready (rs := [39]) (by kernel_rfl) (by simp) ?_
        refine AllReadyH.cons (o := ?oi40) ?hi40 (fun K hK => ?hstep40) AllReadyH.nil
        case hi40 => (simp only [List.getElem?_toArray, List.getElem?_cons_succ, List.getElem?_cons_zero]; try rfl)
        go_simp
        (refine (Krd.out _ (below_step bw hHeld)).mono ?_; rintro e wx ⟨rfl, hbx⟩)
        refine hK.out _ _ ?_ (fun hHeld => ?_)
        · exact below_step hHeld hbx
        clear hK K
        (try simp only [Act.put, List.setIfInBounds_toArray, List.set_cons_zero, List.set_cons_succ])
        refine wpAnyH_take (i := 40) (oi := ?oi41) (v := ?v41) ?hi41 (by kernel_rfl) (by kernel_rfl) (by kernel_rfl) ?hQ41 ?hy41 (by assumption) ?hrest41
        case hi41 => (simp only [List.getElem?_toArray, List.getElem?_cons_succ, List.getElem?_cons_zero]; try rfl)
        case hQ41 => exact fun _ _ _ h => h
        case hy41 =>
          refine Or.inl ⟨by rfl, ?_⟩
          (intro wq hSw; (try dsimp only at hSw); go_simp; try with_reducible rfl)
        (try simp only [Act.put, List.setIfInBounds_toArray, List.set_cons_zero, List.set_cons_succ])
        refine wpAnyH_take (i := 41) (oi := ?oi42) (v := ?v42) ?hi42 (by kernel_rfl) (by kernel_rfl) (by kernel_rfl) ?hQ42 ?hy42 (by assumption) ?hrest42
        case hi42 => (simp only [List.getElem?_toArray, List.getElem?_cons_succ, List.getElem?_cons_zero]; try rfl)
        case hQ42 => exact fun _ _ _ h => h
        case hy42 =>
          refine Or.inl ⟨by rfl, ?_⟩
          (intro wq hSw; (try dsimp only at hSw); go_simp; try with_reducible rfl)
        (try simp only [Act.put, List.setIfInBounds_toArray, List.set_cons_zero, List.set_cons_succ])
        refine wpAnyH_take (i := 42) (oi := ?oi43) (v := ?v43) ?hi43 (by kernel_rfl) (by kernel_rfl) (by kernel_rfl) ?hQ43 ?hy43 (by assumption) ?hrest43
        case hi43 => (simp only [List.getElem?_toArray, List.getElem?_cons_succ, List.getElem?_cons_zero]; try rfl)
        case hQ43 => exact fun _ _ _ h => h
        case hy43 =>
          refine Or.inl ⟨by rfl, ?_⟩
          (intro wq hSw; (try dsimp only at hSw); go_simp; try with_reducible rfl)
        (try simp only [Act.put, List.setIfInBounds_toArray, List.set_cons_zero, List.set_cons_succ])
        refine wpAnyH_done (by kernel_rfl) ?_ _
        refine NoPanic.normal ?_
        (go_wp2_with fail; go_meet; exact ⟨rfl, hHeld⟩)
      refine AllReadyH.cons (o := ?oi44) ?hi44 (fun K hK => ?hstep44) ?hmore44
      case hi44 => (simp only [List.getElem?_toArray, List.getElem?_cons_succ, List.getElem?_cons_zero]; try rfl)
      case hstep44 =>
        go_simp
        (have hh0 := hHeld; (first | refine newvar_Kd ?_ | refine newvar_K ?_); intro wx hbx nv nf nz; have hwx := below_step hh0 hbx; have lgy := one_lg (x := z2) (nv 0 _ rfl) (nv 1 _ rfl) (nv 2 _ rfl) (hs2.out.keep (fun p u hp => cell_on hwx hp)); (try have lgz := lgz.below hbx); clear nv nf)
        refine hK.out _ _ ?_ (fun hHeld => ?_)
        · exact below_step hHeld hbx
        clear hK K
        (try simp only [Act.put, List.setIfInBounds_toArray, List.set_cons_zero, List.set_cons_succ])
        refine wpAnyH_ready (rs := [1]) (by kernel_rfl) (by simp) ?_
        refine AllReadyH.cons (o := ?oi45) ?hi45 (fun K hK => ?hstep45) AllReadyH.nil
        case hi45 => (simp only [List.getElem?_toArray, List.getElem?_cons_succ, List.getElem?_cons_zero]; try rfl)
        go_simp
        (have hh0 := hHeld; (first | refine newvar_Kd ?_ | refine newvar_K ?_); intro wx hbx nv nf nz; have hwx := below_step hh0 hbx; have lgz := one_lg (x := z1) (nv 0 _ rfl) (nv 1 _ rfl) (nv 2 _ rfl) (hs1.out.keep (fun p u hp => cell_on hwx hp)); (try have lgy := lgy.below hbx); clear nv nf)
        refine hK.out _ _ ?_ (fun hHeld => ?_)
        · exact below_step hHeld hbx
        clear hK K
        (try simp only [Act.put, List.setIfInBounds_toArray, List.set_cons_zero, List.set_cons_succ])
        refine wpAnyH_ready (rs := [4]) (by kernel_rfl) (by simp) ?_
        refine AllReadyH.cons (o := ?oi46) ?hi46 (fun K hK => ?hstep46) AllReadyH.nil
        case hi46 => (simp only [List.getElem?_toArray, List.getElem?_cons_succ, List.getElem?_cons_zero]; try rfl)
        go_simp
        (refine (KT.out _ _ _ lgz lgy).mono ?_; rintro e wx ⟨rfl, hbx⟩)
        refine hK.out _ _ ?_ (fun hHeld => ?_)
        · exact below_step hHeld hbx
        clear hK K
        (try simp only [Act.put, List.setIfInBounds_toArray, List.set_cons_zero, List.set_cons_succ])
        refine wpAnyH_take (i := 5) (oi := ?oi47) (v := ?v47) ?hi47 (by kernel_rfl) (by kernel_rfl) (by kernel_rfl) ?hQ47 ?hy47 (by assumption) ?hrest47
        case hi47 => (simp only [List.getElem?_toArray, List.getElem?_cons_succ, List.getElem?_cons_zero]; try rfl)
        case hQ47 => exact fun _ _ _ h => h
        case hy47 =>
          refine Or.inl ⟨by rfl, ?_⟩
          (intro wq hSw; (try dsimp only at hSw); go_simp; try with_reducible rfl)
        (try simp only [Act.put, List.setIfInBounds_toArray, List.set_cons_zero, List.set_cons_succ])
        refine wpAnyH_take (i := 6) (oi := ?oi48) (v := ?v48) ?hi48 (by kernel_rfl) (by kernel_rfl) (by kernel_rfl) ?hQ48 ?hy48 (by assumption) ?hrest48
        case hi48 => (simp only [List.getElem?_toArray, List.getElem?_cons_succ, List.getElem?_cons_zero]; try rfl)
        case hQ48 => exact fun _ _ _ h => h
        case hy48 =>
          refine Or.inl ⟨by rfl, ?_⟩
          (intro wq hSw; (try dsimp only at hSw); go_simp; try with_reducible rfl)
        (try simp only [Act.put, List.setIfInBounds_toArray, List.set_cons_zero, List.set_cons_succ])
        refine wpAnyH_take (i := 7) (oi := ?oi49) (v := ?v49) ?hi49 (by kernel_rfl) (by kernel_rfl) (by kernel_rfl) ?hQ49 ?hy49 (by assumption) ?hrest49
        case hi49 => (simp only [List.getElem?_toArray, List.getElem?_cons_succ, List.getElem?_cons_zero]; try rfl)
        case hQ49 => exact fun _ _ _ h => h
        case hy49 =>
          refine Or.inl ⟨by rfl, ?_⟩
          (intro wq hSw; (try dsimp only at hSw); go_simp; try with_reducible rfl)
        (try simp only [Act.put, List.setIfInBounds_toArray, List.set_cons_zero, List.set_cons_succ])
        refine wpAnyH_take (i := 8) (oi := ?oi50) (v := ?v50) ?hi50 (by kernel_rfl) (by kernel_rfl) (by kernel_rfl) ?hQ50 ?hy50 (by assumption) ?hrest50
        case hi50 => (simp only [List.getElem?_toArray, List.getElem?_cons_succ, List.getElem?_cons_zero]; try rfl)
        case hQ50 => exact fun _ _ _ h => h
        case hy50 =>
          refine Or.inl ⟨by rfl, ?_⟩
          (intro wq hSw; (try dsimp only at hSw); go_simp; try with_reducible rfl)
        (try simp only [Act.put, List.setIfInBounds_toArray, List.set_cons_zero, List.set_cons_succ])
        refine wpAnyH_take (i := 9) (oi := ?oi51) (v := ?v51) ?hi51 (by kernel_rfl) (by kernel_rfl) (by kernel_rfl) ?hQ51 ?hy51 (by assumption) ?hrest51
        case hi51 => (simp only [List.getElem?_toArray, List.getElem?_cons_succ, List.getElem?_cons_zero]; try rfl)
        case hQ51 => exact fun _ _ _ h => h
        case hy51 =>
          refine Or.inl ⟨by rfl, ?_⟩
          (intro wq hSw; (try dsimp only at hSw); go_simp; try with_reducible rfl)
        (try simp only [Act.put, List.setIfInBounds_toArray, List.set_cons_zero, List.set_cons_succ])
        refine wpAnyH_take (i := 10) (oi := ?oi52) (v := ?v52) ?hi52 (by kernel_rfl) (by kernel_rfl) (by kernel_rfl) ?hQ52 ?hy52 (by assumption) ?hrest52
        case hi52 => (simp only [List.getElem?_toArray, List.getElem?_cons_succ, List.getElem?_cons_zero]; try rfl)
        case hQ52 => exact fun _ _ _ h => h
        case hy52 =>
          refine Or.inl ⟨by rfl, ?_⟩
          (intro wq hSw; (try dsimp only at hSw); go_simp; try with_reducible rfl)
        (try simp only [Act.put, List.setIfInBounds_toArray, List.set_cons_zero, List.set_cons_succ])
        refine wpAnyH_take (i := 11) (oi := ?oi53) (v := ?v53) ?hi53 (by kernel_rfl) (by kernel_rfl) (by kernel_rfl) ?hQ53 ?hy53 (by assumption) ?hrest53
        case hi53 => (simp only [List.getElem?_toArray, List.getElem?_cons_succ, List.getElem?_cons_zero]; try rfl)
        case hQ53 => exact fun _ _ _ h => h
        case hy53 =>
          refine Or.inl ⟨by rfl, ?_⟩
          (intro wq hSw; (try dsimp only at hSw); go_simp; try with_reducible rfl)
        (try simp only [Act.put, List.setIfInBounds_toArray, List.set_cons_zero, List.set_cons_succ])
        refine wpAnyH_take (i := 12) (oi := ?oi54) (v := ?v54) ?hi54 (by kernel_rfl) (by kernel_rfl) (by kernel_rfl) ?hQ54 ?hy54 (by assumption) ?hrest54
        case hi54 => (simp only [List.getElem?_toArray, List.getElem?_cons_succ, List.getElem?_cons_zero]; try rfl)
        case hQ54 => exact fun _ _ _ h => h
        case hy54 =>
          refine Or.inl ⟨by rfl, ?_⟩
          (intro wq hSw; (try dsimp only at hSw); go_simp; try with_reducible rfl)
        (try simp only [Act.put, List.setIfInBounds_toArray, List.set_cons_zero, List.set_cons_succ])
        refine wpAnyH_ready (rs := [13]) (by kernel_rfl) (by simp) ?_
        refine AllReadyH.cons (o := ?oi55) ?hi55 (fun K hK => ?hstep55) AllReadyH.nil
        case hi55 => (simp only [List.getElem?_toArray, List.getElem?_cons_succ, List.getElem?_cons_zero]; try rfl)
        go_simp
        (refine (KS.out _ hHeld).mono ?_; rintro e wx ⟨rfl, hbx⟩)
        refine hK.out _ _ ?_ (fun hHeld => ?_)
        · exact below_step hHeld hbx
        clear hK K
        (try simp only [Act.put, List.setIfInBounds_toArray, List.set_cons_zero, List.set_cons_succ])
        refine wpAnyH_take (i := 14) (oi := ?oi56) (v := ?v56) ?hi56 (by kernel_rfl) (by kernel_rfl) (by kernel_rfl) ?hQ56 ?hy56 (by assumption) ?hrest56
        case hi56 => (simp only [List.getElem?_toArray, List.getElem?_cons_succ, List.getElem?_cons_zero]; try rfl)
        case hQ56 => exact fun _ _ _ h => h
        case hy56 =>
          refine Or.inl ⟨by rfl, ?_⟩
          (intro wq hSw; (try dsimp only at hSw); go_simp; try with_reducible rfl)
        (try simp only [Act.put, List.setIfInBounds_toArray, List.set_cons_zero, List.set_cons_succ])
        refine wpAnyH_take (i := 15) (oi := ?oi57) (v := ?v57) ?hi57 (by kernel_rfl) (by kernel_rfl) (by kernel_rfl) ?hQ57 ?hy57 (by assumption) ?hrest57
        case hi57 => (simp only [List.getElem?_toArray, List.getElem?_cons_succ, List.getElem?_cons_zero]; try rfl)
        case hQ57 => exact fun _ _ _ h => h
        case hy57 =>
          refine Or.inl ⟨by rfl, ?_⟩
          (intro wq hSw; (try dsimp only at hSw); go_simp; try with_reducible rfl)
        (try simp only [Act.put, List.setIfInBounds_toArray, List.set_cons_zero, List.set_cons_succ])
        refine wpAnyH_take (i := 16) (oi := ?oi58) (v := ?v58) ?hi58 (by kernel_rfl) (by kernel_rfl) (by kernel_rfl) ?hQ58 ?hy58 (by assumption) ?hrest58
        case hi58 => (simp only [List.getElem?_toArray, List.getElem?_cons_succ, List.getElem?_cons_zero]; try rfl)
        case hQ58 => exact fun _ _ _ h => h
        case hy58 =>
          refine Or.inl ⟨by rfl, ?_⟩
          (intro wq hSw; (try dsimp only at hSw); go_simp; try with_reducible rfl)
        (try simp only [Act.put, List.setIfInBounds_toArray, List.set_cons_zero, List.set_cons_succ])
        refine wpAnyH_take (i := 17) (oi := ?oi59) (v := ?v59) ?hi59 (by kernel_rfl) (by kernel_rfl) (by kernel_rfl) ?hQ59 ?hy59 (by assumption) ?hrest59
        case hi59 => (simp only [List.getElem?_toArray, List.getElem?_cons_succ, List.getElem?_cons_zero]; try rfl)
        case hQ59 => exact fun _ _ _ h => h
        case hy59 =>
          refine Or.inl ⟨by rfl, ?_⟩
          (intro wq hSw; (try dsimp only at hSw); go_simp; try with_reducible rfl)
        (try simp only [Act.put, List.setIfInBounds_toArray, List.set_cons_zero, List.set_cons_succ])
        refine wpAnyH_take (i := 18) (oi := ?oi60) (v := ?v60) ?hi60 (by kernel_rfl) (by kernel_rfl) (by kernel_rfl) ?hQ60 ?hy60 (by assumption) ?hrest60
        case hi60 => (simp only [List.getElem?_toArray, List.getElem?_cons_succ, List.getElem?_cons_zero]; try rfl)
        case hQ60 => exact fun _ _ _ h => h
        case hy60 =>
          refine Or.inl ⟨by rfl, ?_⟩
          (intro wq hSw; (try dsimp only at hSw); go_simp; try with_reducible rfl)
        (try simp only [Act.put, List.setIfInBounds_toArray, List.set_cons_zero, List.set_cons_succ])
        refine wpAnyH_take (i := 19) (oi := ?oi61) (v := ?v61) ?hi61 (by kernel_rfl) (by kernel_rfl) (by kernel_rfl) ?hQ61 ?hy61 (by assumption) ?hrest61
        case hi61 => (simp only [List.getElem?_toArray, List.getElem?_cons_succ, List.getElem?_cons_zero]; try rfl)
        case hQ61 => exact fun _ _ _ h => h
        case hy61 =>
          refine Or.inl ⟨by rfl, ?_⟩
          (intro wq hSw; (try dsimp only at hSw); go_simp; try with_reducible rfl)
        (try simp only [Act.put, List.setIfInBounds_toArray, List.set_cons_zero, List.set_cons_succ])
        refine wpAnyH_take (i := 20) (oi := ?oi62) (v := ?v62) ?hi62 (by kernel_rfl) (by kernel_rfl) (by kernel_rfl) ?hQ62 ?hy62 (by assumption) ?hrest62
        case hi62 => (simp only [List.getElem?_toArray, List.getElem?_cons_succ, List.getElem?_cons_zero]; try rfl)
        case hQ62 => exact fun _ _ _ h => h
        case hy62 =>
          refine Or.inl ⟨by rfl, ?_⟩
          (intro wq hSw; (try dsimp only at hSw); go_simp; try with_reducible rfl)
        (try simp only [Act.put, List.setIfInBounds_toArray, List.set_cons_zero, List.set_cons_succ])
        refine wpAnyH_take (i := 21) (oi := ?oi63) (v := ?v63) ?hi63 (by kernel_rfl) (by kernel_rfl) (by kernel_rfl) ?hQ63 ?hy63 (by assumption) ?hrest63
        case hi63 => (simp only [List.getElem?_toArray, List.getElem?_cons_succ, List.getElem?_cons_zero]; try rfl)
        case hQ63 => exact fun _ _ _ h => h
        case hy63 =>
          refine Or.inl ⟨by rfl, ?_⟩
          (intro wq hSw; (try dsimp only at hSw); go_simp; try with_reducible rfl)
        (try simp only [Act.put, List.setIfInBounds_toArray, List.set_cons_zero, List.set_cons_succ])
        refine wpAnyH_take (i := 23) (oi := ?oi64) (v := ?v64) ?hi64 (by kernel_rfl) (by kernel_rfl) (by kernel_rfl) ?hQ64 ?hy64 (by assumption) ?hrest64
        case hi64 => (simp only [List.getElem?_toArray, List.getElem?_cons_succ, List.getElem?_cons_zero]; try rfl)
        case hQ64 => exact fun _ _ _ h => h
        case hy64 =>
          refine Or.inl ⟨by rfl, ?_⟩
          (intro wq hSw; (try dsimp only at hSw); go_simp; try with_reducible rfl)
        (try simp only [Act.put, List.setIfInBounds_toArray, List.set_cons_zero, List.set_cons_succ])
        refine wpAnyH_ready (rs := [22]) (by kernel_rfl) (by simp) ?_
        refine AllReadyH.cons (o := ?oi65) ?hi65 (fun K hK => ?hstep65) AllReadyH.nil
        case hi65 => (simp only [List.getElem?_toArray, List.getElem?_cons_succ, List.getElem?_cons_zero]; try rfl)
        go_simp
        (refine (Ke.out _ (below_step bw hHeld)).mono ?_; rintro e wx ⟨rfl, hbx⟩)
        refine hK.out _ _ ?_ (fun hHeld => ?_)
        · exact below_step hHeld hbx
        clear hK K
        (try simp only [Act.put, List.setIfInBounds_toArray, List.set_cons_zero, List.set_cons_succ])
        refine wpAnyH_ready (rs := [24]) (by kernel_rfl) (by simp) ?_
        refine AllReadyH.cons (o := ?oi66) ?hi66 (fun K hK => ?hstep66) AllReadyH.nil
        case hi66 => (simp only [List.getElem?_toArray, List.getElem?_cons_succ, List.getElem?_cons_zero]; try rfl)
        go_simp
        (refine (Kre.out _ (below_step bw hHeld)).mono ?_; rintro e wx ⟨rfl, hbx⟩)
        refine hK.out _ _ ?_ (fun hHeld => ?_)
        · exact below_step hHeld hbx
        clear hK K
        (try simp only [Act.put, List.setIfInBounds_toArray, List.set_cons_zero, List.set_cons_succ])
        refine wpAnyH_take (i := 25) (oi := ?oi67) (v := ?v67) ?hi67 (by kernel_rfl) (by kernel_rfl) (by kernel_rfl) ?hQ67 ?hy67 (by assumption) ?hrest67
        case hi67 => (simp only [List.getElem?_toArray, List.getElem?_cons_succ, List.getElem?_cons_zero]; try rfl)
        case hQ67 => exact fun _ _ _ h => h
        case hy67 =>
          refine Or.inl ⟨by rfl, ?_⟩
          (intro wq hSw; (try dsimp only at hSw); go_simp; try with_reducible rfl)
        (try simp only [Act.put, List.setIfInBounds_toArray, List.set_cons_zero, List.set_cons_succ])
        refine wpAnyH_take (i := 26) (oi := ?oi68) (v := ?v68) ?hi68 (by kernel_rfl) (by kernel_rfl) (by kernel_rfl) ?hQ68 ?hy68 (by assumption) ?hrest68
        case hi68 => (simp only [List.getElem?_toArray, List.getElem?_cons_succ, List.getElem?_cons_zero]; try rfl)
        case hQ68 => exact fun _ _ _ h => h
        case hy68 =>
          refine Or.inl ⟨by rfl, ?_⟩
          (intro wq hSw; (try dsimp only at hSw); go_simp; try with_reducible rfl)
        (try simp only [Act.put, List.setIfInBounds_toArray, List.set_cons_zero, List.set_cons_succ])
        refine wpAnyH_take (i := 27) (oi := ?oi69) (v := ?v69) ?hi69 (by kernel_rfl) (by kernel_rfl) (by kernel_rfl) ?hQ69 ?hy69 (by assumption) ?hrest69
        case hi69 => (simp only [List.getElem?_toArray, List.getElem?_cons_succ, List.getElem?_cons_zero]; try rfl)
        case hQ69 => exact fun _ _ _ h => h
        case hy69 =>
          refine Or.inl ⟨by rfl, ?_⟩
          (intro wq hSw; (try dsimp only at hSw); go_simp; try with_reducible rfl)
        (try simp only [Act.put, List.setIfInBounds_toArray, List.set_cons_zero, List.set_cons_succ])
        refine wpAnyH_take (i := 28) (oi := ?oi70) (v := ?v70) ?hi70 (by kernel_rfl) (by kernel_rfl) (by kernel_rfl) ?hQ70 ?hy70 (by assumption) ?hrest70
        case hi70 => (simp only [List.getElem?_toArray, List.getElem?_cons_succ, List.getElem?_cons_zero]; try rfl)
        case hQ70 => exact fun _ _ _ h => h
        case hy70 =>
          refine Or.inl ⟨by rfl, ?_⟩
          (intro wq hSw; (try dsimp only at hSw); go_simp; try with_reducible rfl)
        (try simp only [Act.put, List.setIfInBounds_toArray, List.set_cons_zero, List.set_cons_succ])
        refine wpAnyH_take (i := 29) (oi := ?oi71) (v := ?v71) ?hi71 (by kernel_rfl) (by kernel_rfl) (by kernel_rfl) ?hQ71 ?hy71 (by assumption) ?hrest71
        case hi71 => (simp only [List.getElem?_toArray, List.getElem?_cons_succ, List.getElem?_cons_zero]; try rfl)
        case hQ71 => exact fun _ _ _ h => h
        case hy71 =>
          refine Or.inl ⟨by rfl, ?_⟩
          (intro wq hSw; (try dsimp only at hSw); go_simp; try with_reducible rfl)
        (try simp only [Act.put, List.setIfInBounds_toArray, List.set_cons_zero, List.set_cons_succ])
        refine wpAnyH_take (i := 30) (oi := ?oi72) (v := ?v72) ?hi72 (by kernel_rfl) (by kernel_rfl) (by kernel_rfl) ?hQ72 ?hy72 (by assumption) ?hrest72
        case hi72 => (simp only [List.getElem?_toArray, List.getElem?_cons_succ, List.getElem?_cons_zero]; try rfl)
        case hQ72 => exact fun _ _ _ h => h
        case hy72 =>
          refine Or.inl ⟨by rfl, ?_⟩
          (intro wq hSw; (try dsimp only at hSw); go_simp; try with_reducible rfl)
        (try simp only [Act.put, List.setIfInBounds_toArray, List.set_cons_zero, List.set_cons_succ])
        refine wpAnyH_take (i := 31) (oi := ?oi73) (v := ?v73) ?hi73 (by kernel_rfl) (by kernel_rfl) (by kernel_rfl) ?hQ73 ?hy73 (by assumption) ?hrest73
        case hi73 => (simp only [List.getElem?_toArray, List.getElem?_cons_succ, List.getElem?_cons_zero]; try rfl)
        case hQ73 => exact fun _ _ _ h => h
        case hy73 =>
          refine Or.inl ⟨by rfl, ?_⟩
          (intro wq hSw; (try dsimp only at hSw); go_simp; try with_reducible rfl)
        (try simp only [Act.put, List.setIfInBounds_toArray, List.set_cons_zero, List.set_cons_succ])
        refine wpAnyH_take (i := 32) (oi := ?oi74) (v := ?v74) ?hi74 (by kernel_rfl) (by kernel_rfl) (by kernel_rfl) ?hQ74 ?hy74 (by assumption) ?hrest74
        case hi74 => (simp only [List.getElem?_toArray, List.getElem?_cons_succ, List.getElem?_cons_zero]; try rfl)
        case hQ74 => exact fun _ _ _ h => h
        case hy74 =>
          refine Or.inl ⟨by rfl, ?_⟩
          (intro wq hSw; (try dsimp only at hSw); go_simp; try with_reducible rfl)
        (try simp only [Act.put, List.setIfInBounds_toArray, List.set_cons_zero, List.set_cons_succ])
        refine wpAnyH_take (i := 34) (oi := ?oi75) (v := ?v75) ?hi75 (by kernel_rfl) (by kernel_rfl) (by kernel_rfl) ?hQ75 ?hy75 (by assumption) ?hrest75
        case hi75 => (simp only [List.getElem?_toArray, List.getElem?_cons_succ, List.getElem?_cons_zero]; try rfl)
        case hQ75 => exact fun _ _ _ h => h
        case hy75 =>
          refine Or.inl ⟨by rfl, ?_⟩
          (intro wq hSw; (try dsimp only at hSw); go_simp; try with_reducible rfl)
        (try simp only [Act.put, List.setIfInBounds_toArray, List.set_cons_zero, List.set_cons_succ])
        refine wpAnyH_take (i := 35) (oi := ?oi76) (v := ?v76) ?hi76 (by kernel_rfl) (by kernel_rfl) (by kernel_rfl) ?hQ76 ?hy76 (by assumption) ?hrest76
        case hi76 => (simp only [List.getElem?_toArray, List.getElem?_cons_succ, List.getElem?_cons_zero]; try rfl)
        case hQ76 => exact fun _ _ _ h => h
        case hy76 =>
          refine Or.inl ⟨by rfl, ?_⟩
          (intro wq hSw; (try dsimp only at hSw); go_simp; try with_reducible rfl)
        (try simp only [Act.put, List.setIfInBounds_toArray, List.set_cons_zero, List.set_cons_succ])
        refine wpAnyH_take (i := 36) (oi := ?oi77) (v := ?v77) ?hi77 (by kernel_rfl) (by kernel_rfl) (by kernel_rfl) ?hQ77 ?hy77 (by assumption) ?hrest77
        case hi77 => (simp only [List.getElem?_toArray, List.getElem?_cons_succ, List.getElem?_cons_zero]; try rfl)
        case hQ77 => exact fun _ _ _ h => h
        case hy77 =>
          refine Or.inl ⟨by rfl, ?_⟩
          (intro wq hSw; (try dsimp only at hSw); go_simp; try with_reducible rfl)
        (try simp only [Act.put, List.setIfInBounds_toArray, List.set_cons_zero, List.set_cons_succ])
        refine wpAnyH_take (i := 37) (oi := ?oi78) (v := ?v78) ?hi78 (by kernel_rfl) (by kernel_rfl) (by kernel_rfl) ?hQ78 ?hy78 (by assumption) ?hrest78
        case hi78 => (simp only [List.getElem?_toArray, List.getElem?_cons_succ, List.getElem?_cons_zero]; try rfl)
        case hQ78 => exact fun _ _ _ h => h
        case hy78 =>
          refine Or.inl ⟨by rfl, ?_⟩
          (intro wq hSw; (try dsimp only at hSw); go_simp; try with_reducible rfl)
        (try simp only [Act.put, List.setIfInBounds_toArray, List.set_cons_zero, List.set_cons_succ])
        refine wpAnyH_take (i := 38) (oi := ?oi79) (v := ?v79) ?hi79 (by kernel_rfl) (by kernel_rfl) (by kernel_rfl) ?hQ79 ?hy79 (by assumption) ?hrest79
        case hi79 => (simp only [List.getElem?_toArray, List.getElem?_cons_succ, List.getElem?_cons_zero]; try rfl)
        case hQ79 => exact fun _ _ _ h => h
        case hy79 =>
          refine Or.inl ⟨by rfl, ?_⟩
          (intro wq hSw; (try dsimp only at hSw); go_simp; try with_reducible rfl)
        (try simp only [Act.put, List.setIfInBounds_toArray, List.set_cons_zero, List.set_cons_succ])
        refine wpAnyH_ready (rs := [33]) (by kernel_rfl) (by simp) ?_
        refine AllReadyH.cons (o := ?oi80) ?hi80 (fun K hK => ?hstep80) AllReadyH.nil
        case hi80 => (simp only [List.getElem?_toArray, List.getElem?_cons_succ, List.getElem?_cons_zero]; try rfl)
        go_simp
        (refine (Kd.out _ (below_step bw hHeld)).mono ?_; rintro e wx ⟨rfl, hbx⟩)
        refine hK.out _ _ ?_ (fun hHeld => ?_)
        · exact below_step hHeld hbx
        clear hK K
        (try simp only [Act.put, List.setIfInBounds_toArray, List.set_cons_zero, List.set_cons_succ])
        refine wpAnyH_ready (rs := [39]) (by kernel_rfl) (by simp) ?_
        refine AllReadyH.cons (o := ?oi81) ?hi81 (fun K hK => ?hstep81) AllReadyH.nil
        case hi81 => (simp only [List.getElem?_toArray, List.getElem?_cons_succ, List.getElem?_cons_zero]; try rfl)
        go_simp
        (refine (Krd.out _ (below_step bw hHeld)).mono ?_; rintro e wx ⟨rfl, hbx⟩)
        refine hK.out _ _ ?_ (fun hHeld => ?_)
        · exact below_step hHeld hbx
        clear hK K
        (try simp only [Act.put, List.setIfInBounds_toArray, List.set_cons_zero, List.set_cons_succ])
        refine wpAnyH_take (i := 40) (oi := ?oi82) (v := ?v82) ?hi82 (by kernel_rfl) (by kernel_rfl) (by kernel_rfl) ?hQ82 ?hy82 (by assumption) ?hrest82
        case hi82 => (simp only [List.getElem?_toArray, List.getElem?_cons_succ, List.getElem?_cons_zero]; try rfl)
        case hQ82 => exact fun _ _ _ h => h
        case hy82 =>
          refine Or.inl ⟨by rfl, ?_⟩
          (intro wq hSw; (try dsimp only at hSw); go_simp; try with_reducible rfl)
        (try simp only [Act.put, List.setIfInBounds_toArray, List.set_cons_zero, List.set_cons_succ])
        refine wpAnyH_take (i := 41) (oi := ?oi83) (v := ?v83) ?hi83 (by kernel_rfl) (by kernel_rfl) (by kernel_rfl) ?hQ83 ?hy83 (by assumption) ?hrest83
        case hi83 => (simp only [List.getElem?_toArray, List.getElem?_cons_succ, List.getElem?_cons_zero]; try rfl)
        case hQ83 => exact fun _ _ _ h => h
        case hy83 =>
          refine Or.inl ⟨by rfl, ?_⟩
          (intro wq hSw; (try dsimp only at hSw); go_simp; try with_reducible rfl)
        (try simp only [Act.put, List.setIfInBounds_toArray, List.set_cons_zero, List.set_cons_succ])
        refine wpAnyH_take (i := 42) (oi := ?oi84) (v := ?v84) ?hi84 (by kernel_rfl) (by kernel_rfl) (by kernel_rfl) ?hQ84 ?hy84 (by assumption) ?hrest84
        case hi84 => (simp only [List.getElem?_toArray, List.getElem?_cons_succ, List.getElem?_cons_zero]; try rfl)
        case hQ84 => exact fun _ _ _ h => h
        case hy84 =>
          refine Or.inl ⟨by rfl, ?_⟩
          (intro wq hSw; (try dsimp only at hSw); go_simp; try with_reducible rfl)
        (try simp only [Act.put, List.setIfInBounds_toArray, List.set_cons_zero, List.set_cons_succ])
        refine wpAnyH_done (by kernel_rfl) ?_ _
        refine NoPanic.normal ?_
        (go_wp2_with fail; go_meet; exact ⟨rfl, hHeld⟩)
      exact AllReadyH.nil
    case rest =>
      obtain ⟨rfl, hb⟩ := hcut
      clear u0q u1q x0q x1q z0q z1'q z2'q y0q y1q y2q KT KS
      have U := hid (U.out.on hb)
      have X := hid (X.out.on hb)
      have bw := below_step bw hb
      rename World => w11
      obtain ⟨u0, u1, _⟩ := U.out
      obtain ⟨x0, x1, x2, _⟩ := X.out
      go_wp2_with fail
      refine (Kp.out _ bw).mono ?_
      rintro e w12 ⟨Ap, qap, usp, rfl, hlp, _, hb⟩
      have U := hid (U.out.on hb)
      have X := hid (X.out.on hb)
      have bw := below_step bw hb
      have hlp := hid hlp
      have ha := below_alloc w12 (.cells #[.int .i64 p1, .slice Ap usp.length qap] 26)
      have Pp := hid (Var2.new w12 (.int .i64 p1) (.slice Ap usp.length qap) 26)
      obtain ⟨w13, hw13⟩ : ∃ w13, w12.alloc (.cells #[.int .i64 p1, .slice Ap usp.length qap] 26) = w13 := ⟨_, rfl⟩
      rw [hw13] at ha Pp
      have U := hid (U.out.on ha)
      have X := hid (X.out.on ha)
      have hlp := hid (hlp.out.below ha)
      have bw := below_step bw ha
      obtain ⟨u0, u1, _⟩ := U.out
      obtain ⟨x0, x1, x2, _⟩ := X.out
      go_wp2_with fail
      refine (Krp.out _ bw).mono ?_
      rintro e w14 ⟨Bp, qbp, vsp, rfl, hmp, hb⟩
      have U := hid (U.out.on hb)
      have Pp := hid (Pp.out.on hb)
      have X := hid (X.out.on hb)
      have hlp := hid (hlp.out.below hb)
      have bw := below_step bw hb
      have hmp := hid hmp
      have ha := below_alloc w14 (.cells #[.int .i64 p1, .slice Bp vsp.length qbp] 26)
      have Qp := hid (Var2.new w14 (.int .i64 p1) (.slice Bp vsp.length qbp) 26)
      obtain ⟨w15, hw15⟩ : ∃ w15, w14.alloc (.cells #[.int .i64 p1, .slice Bp vsp.length qbp] 26) = w15 := ⟨_, rfl⟩
      rw [hw15] at ha Qp
      have U := hid (U.out.on ha)
      have Pp := hid (Pp.out.on ha)
      have X := hid (X.out.on ha)
      have hlp := hid (hlp.out.below ha)
      have hmp := hid (hmp.out.below ha)
      have bw := below_step bw ha
      obtain ⟨u0, u1, _⟩ := U.out
      go_wp2_with fail
      refine (Kc.out _ bw).mono ?_
      rintro e w16 ⟨Ac, qac, usc, rfl, hlc, _, hb⟩
      have U := hid (U.out.on hb)
      have Pp := hid (Pp.out.on hb)
      have Qp := hid (Qp.out.on hb)
      have X := hid (X.out.on hb)
      have hlp := hid (hlp.out.below hb)
      have hmp := hid (hmp.out.below hb)
      have bw := below_step bw hb
      have hlc := hid hlc
      have ha := below_alloc w16 (.cells #[.int .i64 c1, .slice Ac usc.length qac] 26)
      have Pc := hid (Var2.new w16 (.int .i64 c1) (.slice Ac usc.length qac) 26)
      obtain ⟨w17, hw17⟩ : ∃ w17, w16.alloc (.cells #[.int .i64 c1, .slice Ac usc.length qac] 26) = w17 := ⟨_, rfl⟩
      rw [hw17] at ha Pc
      have U := hid (U.out.on ha)
      have Pp := hid (Pp.out.on ha)
      have Qp := hid (Qp.out.on ha)
      have X := hid (X.out.on ha)
      have hlp := hid (hlp.out.below ha)
      have hmp := hid (hmp.out.below ha)
      have hlc := hid (hlc.out.below ha)
      have bw := below_step bw ha
      obtain ⟨u0, u1, _⟩ := U.out
      go_wp2_with fail
      refine (Krc.out _ bw).mono ?_
      rintro e w18 ⟨Bc, qbc, vsc, rfl, hmc, hb⟩
      have U := hid (U.out.on hb)
      have Pp := hid (Pp.out.on hb)
      have Qp := hid (Qp.out.on hb)
      have Pc := hid (Pc.out.on hb)
      have X := hid (X.out.on hb)
      have hlp := hid (hlp.out.below hb)
      have hmp := hid (hmp.out.below hb)
      have hlc := hid (hlc.out.below hb)
      have bw := below_step bw hb
      have hmc := hid hmc
      have ha := below_alloc w18 (.cells #[.int .i64 c1, .slice Bc vsc.length qbc] 26)
      have Qc := hid (Var2.new w18 (.int .i64 c1) (.slice Bc vsc.length qbc) 26)
      obtain ⟨w19, hw19⟩ : ∃ w19, w18.alloc (.cells #[.int .i64 c1, .slice Bc vsc.length qbc] 26) = w19 := ⟨_, rfl⟩
      rw [hw19] at ha Qc
      have U := hid (U.out.on ha)
      have Pp := hid (Pp.out.on ha)
      have Qp := hid (Qp.out.on ha)
      have Pc := hid (Pc.out.on ha)
      have X := hid (X.out.on ha)
      have hlp := hid (hlp.out.below ha)
      have hmp := hid (hmp.out.below ha)
      have hlc := hid (hlc.out.below ha)
      have hmc := hid (hmc.out.below ha)
      have bw := below_step bw ha
      obtain ⟨u0, u1, _⟩ := U.out
      go_wp2_with fail
      refine (Kt.out _ bw).mono ?_
      rintro e w20 ⟨At, qat, ust, rfl, hlt, hb⟩
      have U := hid (U.out.on hb)
      have Pp := hid (Pp.out.on hb)
      have Qp := hid (Qp.out.on hb)
      have Pc := hid (Pc.out.on hb)
      have Qc := hid (Qc.out.on hb)
      have X := hid (X.out.on hb)
      have hlp := hid (hlp.out.below hb)
      have hmp := hid (hmp.out.below hb)
      have hlc := hid (hlc.out.below hb)
      have hmc := hid (hmc.out.below hb)
      have bw := below_step bw hb
      have hlt := hid hlt
      have ha := below_alloc w20 (.cells #[.int .i64 t1, .slice At ust.length qat] 26)
      have Pt := hid (Var2.new w20 (.int .i64 t1) (.slice At ust.length qat) 26)
      obtain ⟨w21, hw21⟩ : ∃ w21, w20.alloc (.cells #[.int .i64 t1, .slice At ust.length qat] 26) = w21 := ⟨_, rfl⟩
      rw [hw21] at ha Pt
      have U := hid (U.out.on ha)
      have Pp := hid (Pp.out.on ha)
      have Qp := hid (Qp.out.on ha)
      have Pc := hid (Pc.out.on ha)
      have Qc := hid (Qc.out.on ha)
      have X := hid (X.out.on ha)
      have hlp := hid (hlp.out.below ha)
      have hmp := hid (hmp.out.below ha)
      have hlc := hid (hlc.out.below ha)
      have hmc := hid (hmc.out.below ha)
      have hlt := hid (hlt.out.below ha)
      have bw := below_step bw ha
      obtain ⟨u0, u1, _⟩ := U.out
      go_wp2_with fail
      refine (Krt.out _ bw).mono ?_
      rintro e w22 ⟨Bt, qbt, vst, rfl, hmt, hb⟩
      have U := hid (U.out.on hb)
      have Pp := hid (Pp.out.on hb)
      have Qp := hid (Qp.out.on hb)
      have Pc := hid (Pc.out.on hb)
      have Qc := hid (Qc.out.on hb)
      have Pt := hid (Pt.out.on hb)
      have X := hid (X.out.on hb)
      have hlp := hid (hlp.out.below hb)
      have hmp := hid (hmp.out.below hb)
      have hlc := hid (hlc.out.below hb)
      have hmc := hid (hmc.out.below hb)
      have hlt := hid (hlt.out.below hb)
      have bw := below_step bw hb
      have hmt := hid hmt
      have ha := below_alloc w22 (.cells #[.int .i64 t1, .slice Bt vst.length qbt] 26)
      have Qt := hid (Var2.new w22 (.int .i64 t1) (.slice Bt vst.length qbt) 26)
      obtain ⟨w23, hw23⟩ : ∃ w23, w22.alloc (.cells #[.int .i64 t1, .slice Bt vst.length qbt] 26) = w23 := ⟨_, rfl⟩
      rw [hw23] at ha Qt
      have U := hid (U.out.on ha)
      have Pp := hid (Pp.out.on ha)
      have Qp := hid (Qp.out.on ha)
      have Pc := hid (Pc.out.on ha)
      have Qc := hid (Qc.out.on ha)
      have Pt := hid (Pt.out.on ha)
      have X := hid (X.out.on ha)
      have hlp := hid (hlp.out.below ha)
      have hmp := hid (hmp.out.below ha)
      have hlc := hid (hlc.out.below ha)
      have hmc := hid (hmc.out.below ha)
      have hlt := hid (hlt.out.below ha)
      have hmt := hid (hmt.out.below ha)
      have bw := below_step bw ha
      obtain ⟨u0, u1, _⟩ := Pp.out
      obtain ⟨v0, v1, _⟩ := Qp.out
      go_wp2_with fail
      refine (samel_true hlp.out hmp.out (by (try dsimp only at hal); omega)).mono ?_
      rintro e w24 ⟨rfl, hb⟩
      have U := hid (U.out.on hb)
      have Pp := hid (Pp.out.on hb)
      have Qp := hid (Qp.out.on hb)
      have Pc := hid (Pc.out.on hb)
      have Qc := hid (Qc.out.on hb)
      have Pt := hid (Pt.out.on hb)
      have Qt := hid (Qt.out.on hb)
      have X := hid (X.out.on hb)
      have hlp := hid (hlp.out.below hb)
      have hmp := hid (hmp.out.below hb)
      have hlc := hid (hlc.out.below hb)
      have hmc := hid (hmc.out.below hb)
      have hlt := hid (hlt.out.below hb)
      have hmt := hid (hmt.out.below hb)
      have bw := below_step bw hb
      obtain ⟨u0, u1, _⟩ := Pc.out
      obtain ⟨v0, v1, _⟩ := Qc.out
      go_wp2_with fail
      refine (samel_true hlc.out hmc.out (by (try dsimp only at hcl); omega)).mono ?_
      rintro e w25 ⟨rfl, hb⟩
      have U := hid (U.out.on hb)
      have Pp := hid (Pp.out.on hb)
      have Qp := hid (Qp.out.on hb)
      have Pc := hid (Pc.out.on hb)
      have Qc := hid (Qc.out.on hb)
      have Pt := hid (Pt.out.on hb)
      have Qt := hid (Qt.out.on hb)
      have X := hid (X.out.on hb)
      have hlp := hid (hlp.out.below hb)
      have hmp := hid (hmp.out.below hb)
      have hlc := hid (hlc.out.below hb)
      have hmc := hid (hmc.out.below hb)
      have hlt := hid (hlt.out.below hb)
      have hmt := hid (hmt.out.below hb)
      have bw := below_step bw hb
      obtain ⟨u0, u1, _⟩ := Pt.out
      obtain ⟨v0, v1, _⟩ := Qt.out
      go_wp2_with fail
      refine (samel_true hlt.out hmt.out (by (try dsimp only at htl); omega)).mono ?_
      rintro e w26 ⟨rfl, hb⟩
      have U := hid (U.out.on hb)
      have Pp := hid (Pp.out.on hb)
      have Qp := hid (Qp.out.on hb)
      have Pc := hid (Pc.out.on hb)
      have Qc := hid (Qc.out.on hb)
      have Pt := hid (Pt.out.on hb)
      have Qt := hid (Qt.out.on hb)
      have X := hid (X.out.on hb)
      have hlp := hid (hlp.out.below hb)
      have hmp := hid (hmp.out.below hb)
      have hlc := hid (hlc.out.below hb)
      have hmc := hid (hmc.out.below hb)
      have hlt := hid (hlt.out.below hb)
      have hmt := hid (hmt.out.below hb)
      have bw := below_step bw hb
      go_wp2_with fail
      go_ret
      exact ⟨rfl, bw⟩
  · have g1 : (1000 : Int) < xs.length := by omega
    obtain ⟨u0, u1, _⟩ := U.out
    go_wp2_with fail
    go_ret
    exact ⟨rfl, bw⟩
end Go.Proofs.Ytbfjhclibbonjaa
