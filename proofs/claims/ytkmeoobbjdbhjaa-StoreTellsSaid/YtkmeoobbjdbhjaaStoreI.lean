import Derived.Test.YtkmeoobbjdbhjaaStoreH
import Derived.Deep.DeepCutAuto
namespace Go.Proofs.Ytkmeoobbjdbhjaa
open Go.RowKit Go.Cov Go.Lib
theorem sizeP_ins (l : List (List UInt8 × List UInt8)) (m v : List UInt8) (a b : Nat) (hab : a ≤ b) (hb : a ≤ l.length) : sizeP (l.take a ++ (m, v) :: l.drop b) ≤ sizeP l + 8 + (m.length + v.length) := by
  have h1 : sumP (l.drop b) ≤ sumP (l.drop a) := by
    obtain ⟨k, rfl⟩ : ∃ k, b = a + k := ⟨b - a, by omega⟩
    rw [← List.drop_drop]
    conv => rhs; rw [← List.take_append_drop k (l.drop a), sumP_app]
    omega
  have h2 : sumP l = sumP (l.take a) + sumP (l.drop a) := by
    conv => lhs; rw [← List.take_append_drop a l, sumP_app]
  unfold sizeP
  rw [sumP_app, sumP, List.length_append, List.length_cons, List.length_take, List.length_drop]
  dsimp only
  omega
/-- a pair whose key and value lie in new memory -/
def PrNew (base top : Nat) (y : Pr) : Prop := (∀ ad, y.kA = some ad → base ≤ ad.block ∧ ad.block < top) ∧ ∀ ad, y.vA = some ad → base ≤ ad.block ∧ ad.block < top
theorem upA {lo n n' : Nat} {A : Option Addr} (h : ∀ ad, A = some ad → lo ≤ ad.block ∧ ad.block < n) (hn : n ≤ n') : ∀ ad, A = some ad → lo ≤ ad.block ∧ ad.block < n' := fun ad hA => ⟨(h ad hA).1, Nat.lt_of_lt_of_le (h ad hA).2 hn⟩
set_option maxRecDepth 100000 in
set_option maxHeartbeats 3200000 in
theorem put_any {A B V : Option Addr} {c d f : Nat} {xs : List Pr} {m v : List UInt8} {w : World} (h : Els prEl w A xs) (hc : xs.length ≤ c) (hs : sizeP (xs.map Pr.data) ≤ 140737488000) (g : Rd w B (m.map byt)) (hm : m.length ≤ 140737488351236) (gv : Rd w V (v.map byt)) (hv : v.length ≤ 140737488351236) :
    Calls Try.prog 10 #[.slice A xs.length c, .slice B m.length d, .slice V v.length f] w fun e w' => ∃ vv ys, e = .returned (.tuple #[vv, .int .i64 (putR (xs.map Pr.data) m v).2]) ∧ ys.map Pr.data = (putR (xs.map Pr.data) m v).1 ∧ OwnEls prEl w' w.heap.size 42 vv ys ∧ (∀ y ∈ ys, y ∈ xs ∨ PrNew w.heap.size w'.heap.size y) ∧ Below w.heap.size w w' := by
  have hz : xs.length ≤ 140737488000 := by unfold sizeP at hs; rw [List.length_map] at hs; omega
  have q1 := box_cell w #[.slice B m.length d] 23 0 _ rfl
  have b1 := below_alloc w (.cells #[.slice B m.length d] 23)
  by_cases hbig : 64 < m.length ∨ 256 < v.length
  · have hp : putR (xs.map Pr.data) m v = ([], 1) := by rw [putR, if_pos hbig]
    rw [hp]
    have H := hid (show (64 : Int) < m.length ∨ ¬ (64 : Int) < m.length ∧ (256 : Int) < v.length by omega)
    clear hbig hp
    rcases H.out with j1 | ⟨j1, j2⟩
    all_goals
      go_enter Try.func10, Try.ntmps10
      go_wp2_with fail
      go_ret2
      exact ⟨_, rfl, OwnEls.nil _ _ _ _, b1⟩
  · have j1 : ¬ (64 : Int) < m.length := by omega
    have j2 : ¬ (256 : Int) < v.length := by omega
    have KF := hid (find_any (c := c) (d := d) (h.below b1) (by omega) (g.below b1))
    have hput : putR (xs.map Pr.data) m v = if 2048 < sizeP (insP (xs.map Pr.data) m v) then ([], 71) else (insP (xs.map Pr.data) m v, 0) := by rw [putR, if_neg hbig]
    rcases ixF_data (fun k => decide (k = m)) xs with ⟨h1, h2⟩ | ⟨i, hi, h1, h2⟩
    · rw [h1] at KF
      have eg : ∀ args w, (callFunc 28 args).run Try.prog w = .ok (.enter 28 args) w := enters_of Try.func28 (by kernel_rfl) rfl
      have KI := hid (fun W (hW : Below w.heap.size w W) (hq : W.cell? ⟨w.heap.size, 0, none⟩ = some (.slice B m.length d)) => index_any (c := c) (bs := #[.pointer (some ⟨w.heap.size, 0, none⟩)]) (fun a => decide (0 < compareBytes a.k m)) (h.below hW) (by omega) eg (fun i hi W2 hW2 => put1_any (d := d) (((h.below hW).below hW2) |> fun hh => (pr_at hh i hi).choose_spec.2.2.2.1) (cell_on hW2 hq) ((g.below hW).below hW2)))
      clear eg
      have HP := hid hput
      clear hput
      rcases ixF_data (fun k => decide (0 < compareBytes k m)) xs with ⟨h3, h4⟩ | ⟨i, hi, h3, h4⟩
      · obtain ⟨n, hn⟩ : ∃ n, n = xs.length := ⟨_, rfl⟩
        have hat : atP (xs.map Pr.data) m = (n, n) := by rw [atP, h2, h4, List.length_map, hn]
        have HI := hid (show insP (xs.map Pr.data) m v = (xs.map Pr.data).take n ++ (m, v) :: (xs.map Pr.data).drop n by rw [insP, hat])
        rw [h3] at KI
        clear h1 h2 h3 h4 hat
        go_enter Try.func10, Try.ntmps10
        go_wp2_with fail
        refine KF.out.mono ?_
        rintro e w2 ⟨rfl, hb2⟩
        have q2 := cell_on hb2 q1
        have b2 := below_step b1 hb2
        go_wp2_with fail
        refine (KI.out w2 b2 q2).mono ?_
        rintro e w3 ⟨rfl, hb3⟩
        have q3 := cell_on hb3 q2
        have b3 := below_step b2 hb3
        have sl1 := fun W => run_slice_max (P := Try.prog) Try.underlying22 infoP A xs.length c n .i64 .i64 (xs.length : Int) (xs.length : Int) (by omega) (by omega) (by omega) W
        have sl2 := fun W => run_slice_from (P := Try.prog) Try.underlying22 infoP A xs.length c n .i64 (xs.length : Int) (by omega) (by omega) W
        have HL1 := hid (show (xs.take n).length = n by simp; omega)
        have HL2 := hid (show (xs.drop n).length = xs.length - n by simp)
        have E1 := hid (h.take n)
        have E2 := hid (h.cut n hc)
        generalize hA2 : cutA A c n 2 = A2 at sl2
        rw [show prEl.sz = 2 from rfl, hA2] at E2
        clear hA2
        go_upto_region 10 with fail
        have qq := fun W (hW : Below w3.heap.size w3 W) => cell_on hW q3
        have KC1 := hid (fun W (hW : Below w.heap.size w W) => clone_any (c := d) (g.below hW) hm)
        have KC2 := hid (fun W (hW : Below w.heap.size w W) => clone_any (c := f) (gv.below hW) hv)
        refine wp_region_noPanic ?_
        refine wp_region_held_drew (S := (fun W => Below w3.heap.size w3 W)) (by kernel_rfl) ?_ (fun hHeld => ?_)
        · exact (Below.refl _ _).drew
        refine wpAnyH_take (i := 0) (oi := ?oi1) (v := ?v1) ?hi1 (by kernel_rfl) (by kernel_rfl) (by kernel_rfl) ?hQ1 ?hy1 (by assumption) ?hrest1
        case hi1 => (simp only [List.getElem?_toArray, List.getElem?_cons_zero]; try rfl)
        case hQ1 => exact fun _ _ _ h => h
        case hy1 =>
          refine Or.inl ⟨by rfl, ?_⟩
          (intro wq hSw; (try dsimp only at hSw); go_simp; try with_reducible rfl)
        (try simp only [Act.put, List.setIfInBounds_toArray, List.set_cons_zero, List.set_cons_succ])
        refine wpAnyH_take (i := 1) (oi := ?oi2) (v := ?v2) ?hi2 (by kernel_rfl) (by kernel_rfl) (by kernel_rfl) ?hQ2 ?hy2 (by assumption) ?hrest2
        case hi2 => (simp only [List.getElem?_toArray, List.getElem?_cons_succ, List.getElem?_cons_zero]; try rfl)
        case hQ2 => exact fun _ _ _ h => h
        case hy2 =>
          refine Or.inl ⟨by rfl, ?_⟩
          (intro wq hSw; (try dsimp only at hSw); go_simp; try with_reducible rfl)
        (try simp only [Act.put, List.setIfInBounds_toArray, List.set_cons_zero, List.set_cons_succ])
        refine wpAnyH_take (i := 2) (oi := ?oi3) (v := ?v3) ?hi3 (by kernel_rfl) (by kernel_rfl) (by kernel_rfl) ?hQ3 ?hy3 (by assumption) ?hrest3
        case hi3 => (simp only [List.getElem?_toArray, List.getElem?_cons_succ, List.getElem?_cons_zero]; try rfl)
        case hQ3 => exact fun _ _ _ h => h
        case hy3 =>
          refine Or.inl ⟨by rfl, ?_⟩
          (intro wq hSw; (try dsimp only at hSw); go_simp; try with_reducible rfl)
        (try simp only [Act.put, List.setIfInBounds_toArray, List.set_cons_zero, List.set_cons_succ])
        refine wpAnyH_take (i := 3) (oi := ?oi4) (v := ?v4) ?hi4 (by kernel_rfl) (by kernel_rfl) (by kernel_rfl) ?hQ4 ?hy4 (by assumption) ?hrest4
        case hi4 => (simp only [List.getElem?_toArray, List.getElem?_cons_succ, List.getElem?_cons_zero]; try rfl)
        case hQ4 => exact fun _ _ _ h => h
        case hy4 =>
          refine Or.inl ⟨by rfl, ?_⟩
          (intro wq hSw; (try dsimp only at hSw); go_simp; try with_reducible rfl)
        (try simp only [Act.put, List.setIfInBounds_toArray, List.set_cons_zero, List.set_cons_succ])
        refine wpAnyH_take (i := 4) (oi := ?oi5) (v := ?v5) ?hi5 (by kernel_rfl) (by kernel_rfl) (by kernel_rfl) ?hQ5 ?hy5 (by assumption) ?hrest5
        case hi5 => (simp only [List.getElem?_toArray, List.getElem?_cons_succ, List.getElem?_cons_zero]; try rfl)
        case hQ5 => exact fun _ _ _ h => h
        case hy5 =>
          refine Or.inl ⟨by rfl, ?_⟩
          (intro wq hSw; (try dsimp only at hSw); go_simp; try with_reducible rfl)
        (try simp only [Act.put, List.setIfInBounds_toArray, List.set_cons_zero, List.set_cons_succ])
        refine wpAnyH_take (i := 6) (oi := ?oi6) (v := ?v6) ?hi6 (by kernel_rfl) (by kernel_rfl) (by kernel_rfl) ?hQ6 ?hy6 (by assumption) ?hrest6
        case hi6 => (simp only [List.getElem?_toArray, List.getElem?_cons_succ, List.getElem?_cons_zero]; try rfl)
        case hQ6 => exact fun _ _ _ h => h
        case hy6 =>
          refine Or.inl ⟨by rfl, ?_⟩
          (intro wq hSw; (try dsimp only at hSw); go_simp; try with_reducible rfl)
        (try simp only [Act.put, List.setIfInBounds_toArray, List.set_cons_zero, List.set_cons_succ])
        refine wpAnyH_take (i := 10) (oi := ?oi7) (v := ?v7) ?hi7 (by kernel_rfl) (by kernel_rfl) (by kernel_rfl) ?hQ7 ?hy7 (by assumption) ?hrest7
        case hi7 => (simp only [List.getElem?_toArray, List.getElem?_cons_succ, List.getElem?_cons_zero]; try rfl)
        case hQ7 => exact fun _ _ _ h => h
        case hy7 =>
          refine Or.inl ⟨by rfl, ?_⟩
          (intro wq hSw; (try dsimp only at hSw); go_simp; try with_reducible rfl)
        (try simp only [Act.put, List.setIfInBounds_toArray, List.set_cons_zero, List.set_cons_succ])
        refine wpAnyH_take (i := 11) (oi := ?oi8) (v := ?v8) ?hi8 (by kernel_rfl) (by kernel_rfl) (by kernel_rfl) ?hQ8 ?hy8 (by assumption) ?hrest8
        case hi8 => (simp only [List.getElem?_toArray, List.getElem?_cons_succ, List.getElem?_cons_zero]; try rfl)
        case hQ8 => exact fun _ _ _ h => h
        case hy8 =>
          refine Or.inl ⟨by rfl, ?_⟩
          (intro wq hSw; (try dsimp only at hSw); go_simp; try with_reducible rfl)
        (try simp only [Act.put, List.setIfInBounds_toArray, List.set_cons_zero, List.set_cons_succ])
        refine wpAnyH_take (i := 12) (oi := ?oi9) (v := ?v9) ?hi9 (by kernel_rfl) (by kernel_rfl) (by kernel_rfl) ?hQ9 ?hy9 (by assumption) ?hrest9
        case hi9 => (simp only [List.getElem?_toArray, List.getElem?_cons_succ, List.getElem?_cons_zero]; try rfl)
        case hQ9 => exact fun _ _ _ h => h
        case hy9 =>
          refine Or.inl ⟨by rfl, ?_⟩
          (intro wq hSw; (try dsimp only at hSw); go_simp; try with_reducible rfl)
        (try simp only [Act.put, List.setIfInBounds_toArray, List.set_cons_zero, List.set_cons_succ])
        refine wpAnyH_ready (rs := [5]) (by kernel_rfl) (by simp) ?_
        refine AllReadyH.cons (o := ?oi10) ?hi10 (fun K hK => ?hstep10) AllReadyH.nil
        case hi10 => (simp only [List.getElem?_toArray, List.getElem?_cons_succ, List.getElem?_cons_zero]; try rfl)
        go_simp
        (have bx1 := below_step b3 hHeld; refine (KC1.out _ bx1).mono ?_; rintro e wx ⟨vk, rfl, ownk, hbx⟩; obtain ⟨Ka, kc, rfl, _⟩ := own_shape ownk; have slk := own_sl ownk; have fk := hid (fun ad (hA : Ka = some ad) => (show w.heap.size ≤ ad.block ∧ ad.block < wx.heap.size from ⟨Nat.le_trans bx1.size (own_lt ownk (k := ad.block) (by rw [hA]; rfl)).1, (own_lt ownk (k := ad.block) (by rw [hA]; rfl)).2⟩)); have bx2 := below_step bx1 hbx)
        refine hK.out _ _ ?_ (fun hHeld => ?_)
        · exact below_step hHeld hbx
        clear hK K
        (try simp only [Act.put, List.setIfInBounds_toArray, List.set_cons_zero, List.set_cons_succ])
        refine wpAnyH_ready (rs := [7]) (by kernel_rfl) (by simp) ?_
        refine AllReadyH.cons (o := ?oi11) ?hi11 (fun K hK => ?hstep11) AllReadyH.nil
        case hi11 => (simp only [List.getElem?_toArray, List.getElem?_cons_succ, List.getElem?_cons_zero]; try rfl)
        go_simp
        (refine (KC2.out _ bx2).mono ?_; rintro e wy ⟨vw, rfl, ownv, hbx⟩; obtain ⟨V2, vc, rfl, _⟩ := own_shape ownv; have slv := own_sl ownv; have fv := hid (fun ad (hA : V2 = some ad) => (show w.heap.size ≤ ad.block ∧ ad.block < wy.heap.size from ⟨Nat.le_trans bx2.size (own_lt ownv (k := ad.block) (by rw [hA]; rfl)).1, (own_lt ownv (k := ad.block) (by rw [hA]; rfl)).2⟩)); have fk := hid (upA fk.out hbx.size); have bx3 := below_step bx2 hbx; have slk := slk.keep (fun p u hp => cell_on hbx hp))
        refine hK.out _ _ ?_ (fun hHeld => ?_)
        · exact below_step hHeld hbx
        clear hK K
        (try simp only [Act.put, List.setIfInBounds_toArray, List.set_cons_zero, List.set_cons_succ])
        refine wpAnyH_take (i := 8) (oi := ?oi12) (v := ?v12) ?hi12 (by kernel_rfl) (by kernel_rfl) (by kernel_rfl) ?hQ12 ?hy12 (by assumption) ?hrest12
        case hi12 => (simp only [List.getElem?_toArray, List.getElem?_cons_succ, List.getElem?_cons_zero]; try rfl)
        case hQ12 => exact fun _ _ _ h => h
        case hy12 =>
          refine Or.inl ⟨by rfl, ?_⟩
          (intro wq hSw; (try dsimp only at hSw); go_simp; try with_reducible rfl)
        (try simp only [Act.put, List.setIfInBounds_toArray, List.set_cons_zero, List.set_cons_succ])
        refine wpAnyH_ready (rs := [9]) (by kernel_rfl) (by simp) ?_
        refine AllReadyH.cons (o := ?oi13) ?hi13 (fun K hK => ?hstep13) AllReadyH.nil
        case hi13 => (simp only [List.getElem?_toArray, List.getElem?_cons_succ, List.getElem?_cons_zero]; try rfl)
        go_simp
        ((first | refine newvar_Kd ?_ | refine newvar_K ?_); intro wz hbx nv nf nz; have n0 := nv 0 _ rfl; have n1 := nv 1 _ rfl; have fk := hid (upA fk.out hbx.size); have fv := hid (upA fv.out hbx.size); have slk := slk.keep (fun p u hp => cell_on hbx hp); have slv := slv.keep (fun p u hp => cell_on hbx hp); have one := one_els n0 n1 slk slv; have bx4 := below_step bx3 hbx; clear nv nf nz)
        refine hK.out _ _ ?_ (fun hHeld => ?_)
        · exact below_step hHeld hbx
        clear hK K
        (try simp only [Act.put, List.setIfInBounds_toArray, List.set_cons_zero, List.set_cons_succ])
        refine wpAnyH_ready (rs := [13]) (by kernel_rfl) (by simp) ?_
        refine AllReadyH.cons (o := ?oi14) ?hi14 (fun K hK => ?hstep14) AllReadyH.nil
        case hi14 => (simp only [List.getElem?_toArray, List.getElem?_cons_succ, List.getElem?_cons_zero]; try rfl)
        go_simp
        ((first | refine newvar_Kd ?_ | refine newvar_K ?_); intro wu hbx nv nf nz; have k0 := nv 0 _ rfl; have k1 := nv 1 _ rfl; have k2 := nv 2 _ rfl; have fk := hid (upA fk.out hbx.size); have fv := hid (upA fv.out hbx.size); have one := one.below hbx; have bx5 := below_step bx4 hbx; clear nv nf nz)
        refine hK.out _ _ ?_ (fun hHeld => ?_)
        · exact below_step hHeld hbx
        clear hK K
        (try simp only [Act.put, List.setIfInBounds_toArray, List.set_cons_zero, List.set_cons_succ])
        refine wpAnyH_ready (rs := [14]) (by kernel_rfl) (by simp) ?_
        refine AllReadyH.cons (o := ?oi15) ?hi15 (fun K hK => ?hstep15) AllReadyH.nil
        case hi15 => (simp only [List.getElem?_toArray, List.getElem?_cons_succ, List.getElem?_cons_zero]; try rfl)
        go_simp
        (have hT : Rd wu (some ⟨wz.heap.size, 0, none⟩) ([(A, n, xs.take n), (some ⟨wy.heap.size, 0, none⟩, 1, [⟨Ka, kc, m, V2, vc, v⟩]), (A2, c - n, xs.drop n)].map segV) := rd3 (by rw [segV, HL1.out]; first | exact k0 | (subst hn; simpa using k0)) k1 (by rw [segV, HL2.out]; first | exact k2 | (subst hn; simpa using k2)); refine (concat_any hT (fun s hs => by rcases List.mem_cons.1 hs with rfl | hs; exact E1.out.below bx5; rcases List.mem_cons.1 hs with rfl | hs; exact one; rw [List.mem_singleton.1 hs]; exact E2.out.below bx5) (by simp) (by simp [segAll]; omega)).mono ?_; rintro e w4 ⟨v4, rfl, own4, hbx⟩; have fk := hid (upA fk.out hbx.size); have fv := hid (upA fv.out hbx.size); have bx6 := below_step bx5 hbx)
        refine hK.out _ _ ?_ (fun hHeld => ?_)
        · exact below_step hHeld hbx
        clear hK K
        (try simp only [Act.put, List.setIfInBounds_toArray, List.set_cons_zero, List.set_cons_succ])
        refine wpAnyH_take (i := 15) (oi := ?oi16) (v := ?v16) ?hi16 (by kernel_rfl) (by kernel_rfl) (by kernel_rfl) ?hQ16 ?hy16 (by assumption) ?hrest16
        case hi16 => (simp only [List.getElem?_toArray, List.getElem?_cons_succ, List.getElem?_cons_zero]; try rfl)
        case hQ16 => exact fun _ _ _ h => h
        case hy16 =>
          refine Or.inl ⟨by rfl, ?_⟩
          (intro wq hSw; (try dsimp only at hSw); go_simp; try with_reducible rfl)
        (try simp only [Act.put, List.setIfInBounds_toArray, List.set_cons_zero, List.set_cons_succ])
        refine wpAnyH_done (by kernel_rfl) ?_ _
        refine NoPanic.normal ?_
        obtain ⟨A4, c4, rfl, hc4, _, el4⟩ := own4.rd
        generalize hys : segAll [(A, n, xs.take n), (some ⟨wy.heap.size, 0, none⟩, 1, [⟨Ka, kc, m, V2, vc, v⟩]), (A2, c - n, xs.drop n)] = ys at own4 el4 hc4
        have hyd : ys.map Pr.data = insP (xs.map Pr.data) m v := by rw [HI.out, ← hys]; simp [segAll, Pr.data]
        have hsz : sizeP (insP (xs.map Pr.data) m v) ≤ sizeP (xs.map Pr.data) + 8 + (m.length + v.length) := by rw [HI.out]; exact sizeP_ins _ _ _ _ _ (by omega) (by simp; omega)
        have KS := hid (size_pairs (c := c4) el4 (by rw [hyd]; omega))
        rw [hyd] at KS
        have HPV := hid (show ∀ y ∈ ys, y ∈ xs ∨ PrNew w.heap.size w4.heap.size y from by
          rw [← hys]
          intro y hy
          simp only [segAll, List.flatMap_cons, List.flatMap_nil, List.append_nil, List.mem_append, List.mem_singleton] at hy
          rcases hy with hy | rfl | hy
          · exact .inl (List.mem_of_mem_take hy)
          · exact .inr ⟨fk.out, fv.out⟩
          · exact .inl (List.mem_of_mem_drop hy))
        clear hys
        have HYD := hid hyd
        clear hyd
        generalize sizeP (insP (xs.map Pr.data) m v) = z at KS HP
        by_cases hq : 2048 < z
        · have HP2 := hid (HP.out.trans (if_pos hq))
          have j3 : (2048 : Int) < z := by omega
          clear HP hsz
          go_wp2_with fail
          refine KS.out.mono ?_
          rintro e w5 ⟨rfl, hb5⟩
          go_wp2_with fail
          go_ret2
          exact ⟨_, [], by rw [HP2.out]; rfl, by rw [HP2.out]; rfl, OwnEls.nil _ _ _ _, (fun y hy => by cases hy), below_step bx6 hb5⟩
        · have HP2 := hid (HP.out.trans (if_neg hq))
          have j3 : ¬ (2048 : Int) < z := by omega
          clear HP hsz
          go_wp2_with fail
          refine KS.out.mono ?_
          rintro e w5 ⟨rfl, hb5⟩
          go_wp2_with fail
          go_ret2
          exact ⟨_, ys, by rw [HP2.out]; rfl, by rw [HP2.out, HYD.out], (own4.mono bx5.size).below hb5, (fun y hy => (HPV.out y hy).imp id (fun hn => ⟨upA hn.1 hb5.size, upA hn.2 hb5.size⟩)), below_step bx6 hb5⟩
      · have hat : atP (xs.map Pr.data) m = (i, i) := by rw [atP, h2, h4]
        have HI := hid (show insP (xs.map Pr.data) m v = (xs.map Pr.data).take i ++ (m, v) :: (xs.map Pr.data).drop i by rw [insP, hat])
        rw [h3] at KI
        clear h1 h2 h3 h4 hat
        go_enter Try.func10, Try.ntmps10
        go_wp2_with fail
        refine KF.out.mono ?_
        rintro e w2 ⟨rfl, hb2⟩
        have q2 := cell_on hb2 q1
        have b2 := below_step b1 hb2
        go_wp2_with fail
        refine (KI.out w2 b2 q2).mono ?_
        rintro e w3 ⟨rfl, hb3⟩
        have q3 := cell_on hb3 q2
        have b3 := below_step b2 hb3
        have sl1 := fun W => run_slice_max (P := Try.prog) Try.underlying22 infoP A xs.length c i .i64 .i64 (i : Int) (i : Int) (by omega) (by omega) (by omega) W
        have sl2 := fun W => run_slice_from (P := Try.prog) Try.underlying22 infoP A xs.length c i .i64 (i : Int) (by omega) (by omega) W
        have HL1 := hid (show (xs.take i).length = i by simp; omega)
        have HL2 := hid (show (xs.drop i).length = xs.length - i by simp)
        have E1 := hid (h.take i)
        have E2 := hid (h.cut i hc)
        generalize hA2 : cutA A c i 2 = A2 at sl2
        rw [show prEl.sz = 2 from rfl, hA2] at E2
        clear hA2
        go_upto_region 10 with fail
        have qq := fun W (hW : Below w3.heap.size w3 W) => cell_on hW q3
        have KC1 := hid (fun W (hW : Below w.heap.size w W) => clone_any (c := d) (g.below hW) hm)
        have KC2 := hid (fun W (hW : Below w.heap.size w W) => clone_any (c := f) (gv.below hW) hv)
        refine wp_region_noPanic ?_
        refine wp_region_held_drew (S := (fun W => Below w3.heap.size w3 W)) (by kernel_rfl) ?_ (fun hHeld => ?_)
        · exact (Below.refl _ _).drew
        refine wpAnyH_take (i := 0) (oi := ?oi17) (v := ?v17) ?hi17 (by kernel_rfl) (by kernel_rfl) (by kernel_rfl) ?hQ17 ?hy17 (by assumption) ?hrest17
        case hi17 => (simp only [List.getElem?_toArray, List.getElem?_cons_zero]; try rfl)
        case hQ17 => exact fun _ _ _ h => h
        case hy17 =>
          refine Or.inl ⟨by rfl, ?_⟩
          (intro wq hSw; (try dsimp only at hSw); go_simp; try with_reducible rfl)
        (try simp only [Act.put, List.setIfInBounds_toArray, List.set_cons_zero, List.set_cons_succ])
        refine wpAnyH_take (i := 1) (oi := ?oi18) (v := ?v18) ?hi18 (by kernel_rfl) (by kernel_rfl) (by kernel_rfl) ?hQ18 ?hy18 (by assumption) ?hrest18
        case hi18 => (simp only [List.getElem?_toArray, List.getElem?_cons_succ, List.getElem?_cons_zero]; try rfl)
        case hQ18 => exact fun _ _ _ h => h
        case hy18 =>
          refine Or.inl ⟨by rfl, ?_⟩
          (intro wq hSw; (try dsimp only at hSw); go_simp; try with_reducible rfl)
        (try simp only [Act.put, List.setIfInBounds_toArray, List.set_cons_zero, List.set_cons_succ])
        refine wpAnyH_take (i := 2) (oi := ?oi19) (v := ?v19) ?hi19 (by kernel_rfl) (by kernel_rfl) (by kernel_rfl) ?hQ19 ?hy19 (by assumption) ?hrest19
        case hi19 => (simp only [List.getElem?_toArray, List.getElem?_cons_succ, List.getElem?_cons_zero]; try rfl)
        case hQ19 => exact fun _ _ _ h => h
        case hy19 =>
          refine Or.inl ⟨by rfl, ?_⟩
          (intro wq hSw; (try dsimp only at hSw); go_simp; try with_reducible rfl)
        (try simp only [Act.put, List.setIfInBounds_toArray, List.set_cons_zero, List.set_cons_succ])
        refine wpAnyH_take (i := 3) (oi := ?oi20) (v := ?v20) ?hi20 (by kernel_rfl) (by kernel_rfl) (by kernel_rfl) ?hQ20 ?hy20 (by assumption) ?hrest20
        case hi20 => (simp only [List.getElem?_toArray, List.getElem?_cons_succ, List.getElem?_cons_zero]; try rfl)
        case hQ20 => exact fun _ _ _ h => h
        case hy20 =>
          refine Or.inl ⟨by rfl, ?_⟩
          (intro wq hSw; (try dsimp only at hSw); go_simp; try with_reducible rfl)
        (try simp only [Act.put, List.setIfInBounds_toArray, List.set_cons_zero, List.set_cons_succ])
        refine wpAnyH_take (i := 4) (oi := ?oi21) (v := ?v21) ?hi21 (by kernel_rfl) (by kernel_rfl) (by kernel_rfl) ?hQ21 ?hy21 (by assumption) ?hrest21
        case hi21 => (simp only [List.getElem?_toArray, List.getElem?_cons_succ, List.getElem?_cons_zero]; try rfl)
        case hQ21 => exact fun _ _ _ h => h
        case hy21 =>
          refine Or.inl ⟨by rfl, ?_⟩
          (intro wq hSw; (try dsimp only at hSw); go_simp; try with_reducible rfl)
        (try simp only [Act.put, List.setIfInBounds_toArray, List.set_cons_zero, List.set_cons_succ])
        refine wpAnyH_take (i := 6) (oi := ?oi22) (v := ?v22) ?hi22 (by kernel_rfl) (by kernel_rfl) (by kernel_rfl) ?hQ22 ?hy22 (by assumption) ?hrest22
        case hi22 => (simp only [List.getElem?_toArray, List.getElem?_cons_succ, List.getElem?_cons_zero]; try rfl)
        case hQ22 => exact fun _ _ _ h => h
        case hy22 =>
          refine Or.inl ⟨by rfl, ?_⟩
          (intro wq hSw; (try dsimp only at hSw); go_simp; try with_reducible rfl)
        (try simp only [Act.put, List.setIfInBounds_toArray, List.set_cons_zero, List.set_cons_succ])
        refine wpAnyH_take (i := 10) (oi := ?oi23) (v := ?v23) ?hi23 (by kernel_rfl) (by kernel_rfl) (by kernel_rfl) ?hQ23 ?hy23 (by assumption) ?hrest23
        case hi23 => (simp only [List.getElem?_toArray, List.getElem?_cons_succ, List.getElem?_cons_zero]; try rfl)
        case hQ23 => exact fun _ _ _ h => h
        case hy23 =>
          refine Or.inl ⟨by rfl, ?_⟩
          (intro wq hSw; (try dsimp only at hSw); go_simp; try with_reducible rfl)
        (try simp only [Act.put, List.setIfInBounds_toArray, List.set_cons_zero, List.set_cons_succ])
        refine wpAnyH_take (i := 11) (oi := ?oi24) (v := ?v24) ?hi24 (by kernel_rfl) (by kernel_rfl) (by kernel_rfl) ?hQ24 ?hy24 (by assumption) ?hrest24
        case hi24 => (simp only [List.getElem?_toArray, List.getElem?_cons_succ, List.getElem?_cons_zero]; try rfl)
        case hQ24 => exact fun _ _ _ h => h
        case hy24 =>
          refine Or.inl ⟨by rfl, ?_⟩
          (intro wq hSw; (try dsimp only at hSw); go_simp; try with_reducible rfl)
        (try simp only [Act.put, List.setIfInBounds_toArray, List.set_cons_zero, List.set_cons_succ])
        refine wpAnyH_take (i := 12) (oi := ?oi25) (v := ?v25) ?hi25 (by kernel_rfl) (by kernel_rfl) (by kernel_rfl) ?hQ25 ?hy25 (by assumption) ?hrest25
        case hi25 => (simp only [List.getElem?_toArray, List.getElem?_cons_succ, List.getElem?_cons_zero]; try rfl)
        case hQ25 => exact fun _ _ _ h => h
        case hy25 =>
          refine Or.inl ⟨by rfl, ?_⟩
          (intro wq hSw; (try dsimp only at hSw); go_simp; try with_reducible rfl)
        (try simp only [Act.put, List.setIfInBounds_toArray, List.set_cons_zero, List.set_cons_succ])
        refine wpAnyH_ready (rs := [5]) (by kernel_rfl) (by simp) ?_
        refine AllReadyH.cons (o := ?oi26) ?hi26 (fun K hK => ?hstep26) AllReadyH.nil
        case hi26 => (simp only [List.getElem?_toArray, List.getElem?_cons_succ, List.getElem?_cons_zero]; try rfl)
        go_simp
        (have bx1 := below_step b3 hHeld; refine (KC1.out _ bx1).mono ?_; rintro e wx ⟨vk, rfl, ownk, hbx⟩; obtain ⟨Ka, kc, rfl, _⟩ := own_shape ownk; have slk := own_sl ownk; have fk := hid (fun ad (hA : Ka = some ad) => (show w.heap.size ≤ ad.block ∧ ad.block < wx.heap.size from ⟨Nat.le_trans bx1.size (own_lt ownk (k := ad.block) (by rw [hA]; rfl)).1, (own_lt ownk (k := ad.block) (by rw [hA]; rfl)).2⟩)); have bx2 := below_step bx1 hbx)
        refine hK.out _ _ ?_ (fun hHeld => ?_)
        · exact below_step hHeld hbx
        clear hK K
        (try simp only [Act.put, List.setIfInBounds_toArray, List.set_cons_zero, List.set_cons_succ])
        refine wpAnyH_ready (rs := [7]) (by kernel_rfl) (by simp) ?_
        refine AllReadyH.cons (o := ?oi27) ?hi27 (fun K hK => ?hstep27) AllReadyH.nil
        case hi27 => (simp only [List.getElem?_toArray, List.getElem?_cons_succ, List.getElem?_cons_zero]; try rfl)
        go_simp
        (refine (KC2.out _ bx2).mono ?_; rintro e wy ⟨vw, rfl, ownv, hbx⟩; obtain ⟨V2, vc, rfl, _⟩ := own_shape ownv; have slv := own_sl ownv; have fv := hid (fun ad (hA : V2 = some ad) => (show w.heap.size ≤ ad.block ∧ ad.block < wy.heap.size from ⟨Nat.le_trans bx2.size (own_lt ownv (k := ad.block) (by rw [hA]; rfl)).1, (own_lt ownv (k := ad.block) (by rw [hA]; rfl)).2⟩)); have fk := hid (upA fk.out hbx.size); have bx3 := below_step bx2 hbx; have slk := slk.keep (fun p u hp => cell_on hbx hp))
        refine hK.out _ _ ?_ (fun hHeld => ?_)
        · exact below_step hHeld hbx
        clear hK K
        (try simp only [Act.put, List.setIfInBounds_toArray, List.set_cons_zero, List.set_cons_succ])
        refine wpAnyH_take (i := 8) (oi := ?oi28) (v := ?v28) ?hi28 (by kernel_rfl) (by kernel_rfl) (by kernel_rfl) ?hQ28 ?hy28 (by assumption) ?hrest28
        case hi28 => (simp only [List.getElem?_toArray, List.getElem?_cons_succ, List.getElem?_cons_zero]; try rfl)
        case hQ28 => exact fun _ _ _ h => h
        case hy28 =>
          refine Or.inl ⟨by rfl, ?_⟩
          (intro wq hSw; (try dsimp only at hSw); go_simp; try with_reducible rfl)
        (try simp only [Act.put, List.setIfInBounds_toArray, List.set_cons_zero, List.set_cons_succ])
        refine wpAnyH_ready (rs := [9]) (by kernel_rfl) (by simp) ?_
        refine AllReadyH.cons (o := ?oi29) ?hi29 (fun K hK => ?hstep29) AllReadyH.nil
        case hi29 => (simp only [List.getElem?_toArray, List.getElem?_cons_succ, List.getElem?_cons_zero]; try rfl)
        go_simp
        ((first | refine newvar_Kd ?_ | refine newvar_K ?_); intro wz hbx nv nf nz; have n0 := nv 0 _ rfl; have n1 := nv 1 _ rfl; have fk := hid (upA fk.out hbx.size); have fv := hid (upA fv.out hbx.size); have slk := slk.keep (fun p u hp => cell_on hbx hp); have slv := slv.keep (fun p u hp => cell_on hbx hp); have one := one_els n0 n1 slk slv; have bx4 := below_step bx3 hbx; clear nv nf nz)
        refine hK.out _ _ ?_ (fun hHeld => ?_)
        · exact below_step hHeld hbx
        clear hK K
        (try simp only [Act.put, List.setIfInBounds_toArray, List.set_cons_zero, List.set_cons_succ])
        refine wpAnyH_ready (rs := [13]) (by kernel_rfl) (by simp) ?_
        refine AllReadyH.cons (o := ?oi30) ?hi30 (fun K hK => ?hstep30) AllReadyH.nil
        case hi30 => (simp only [List.getElem?_toArray, List.getElem?_cons_succ, List.getElem?_cons_zero]; try rfl)
        go_simp
        ((first | refine newvar_Kd ?_ | refine newvar_K ?_); intro wu hbx nv nf nz; have k0 := nv 0 _ rfl; have k1 := nv 1 _ rfl; have k2 := nv 2 _ rfl; have fk := hid (upA fk.out hbx.size); have fv := hid (upA fv.out hbx.size); have one := one.below hbx; have bx5 := below_step bx4 hbx; clear nv nf nz)
        refine hK.out _ _ ?_ (fun hHeld => ?_)
        · exact below_step hHeld hbx
        clear hK K
        (try simp only [Act.put, List.setIfInBounds_toArray, List.set_cons_zero, List.set_cons_succ])
        refine wpAnyH_ready (rs := [14]) (by kernel_rfl) (by simp) ?_
        refine AllReadyH.cons (o := ?oi31) ?hi31 (fun K hK => ?hstep31) AllReadyH.nil
        case hi31 => (simp only [List.getElem?_toArray, List.getElem?_cons_succ, List.getElem?_cons_zero]; try rfl)
        go_simp
        (have hT : Rd wu (some ⟨wz.heap.size, 0, none⟩) ([(A, i, xs.take i), (some ⟨wy.heap.size, 0, none⟩, 1, [⟨Ka, kc, m, V2, vc, v⟩]), (A2, c - i, xs.drop i)].map segV) := rd3 (by rw [segV, HL1.out]; first | exact k0 | (subst hn; simpa using k0)) k1 (by rw [segV, HL2.out]; first | exact k2 | (subst hn; simpa using k2)); refine (concat_any hT (fun s hs => by rcases List.mem_cons.1 hs with rfl | hs; exact E1.out.below bx5; rcases List.mem_cons.1 hs with rfl | hs; exact one; rw [List.mem_singleton.1 hs]; exact E2.out.below bx5) (by simp) (by simp [segAll]; omega)).mono ?_; rintro e w4 ⟨v4, rfl, own4, hbx⟩; have fk := hid (upA fk.out hbx.size); have fv := hid (upA fv.out hbx.size); have bx6 := below_step bx5 hbx)
        refine hK.out _ _ ?_ (fun hHeld => ?_)
        · exact below_step hHeld hbx
        clear hK K
        (try simp only [Act.put, List.setIfInBounds_toArray, List.set_cons_zero, List.set_cons_succ])
        refine wpAnyH_take (i := 15) (oi := ?oi32) (v := ?v32) ?hi32 (by kernel_rfl) (by kernel_rfl) (by kernel_rfl) ?hQ32 ?hy32 (by assumption) ?hrest32
        case hi32 => (simp only [List.getElem?_toArray, List.getElem?_cons_succ, List.getElem?_cons_zero]; try rfl)
        case hQ32 => exact fun _ _ _ h => h
        case hy32 =>
          refine Or.inl ⟨by rfl, ?_⟩
          (intro wq hSw; (try dsimp only at hSw); go_simp; try with_reducible rfl)
        (try simp only [Act.put, List.setIfInBounds_toArray, List.set_cons_zero, List.set_cons_succ])
        refine wpAnyH_done (by kernel_rfl) ?_ _
        refine NoPanic.normal ?_
        obtain ⟨A4, c4, rfl, hc4, _, el4⟩ := own4.rd
        generalize hys : segAll [(A, i, xs.take i), (some ⟨wy.heap.size, 0, none⟩, 1, [⟨Ka, kc, m, V2, vc, v⟩]), (A2, c - i, xs.drop i)] = ys at own4 el4 hc4
        have hyd : ys.map Pr.data = insP (xs.map Pr.data) m v := by rw [HI.out, ← hys]; simp [segAll, Pr.data]
        have hsz : sizeP (insP (xs.map Pr.data) m v) ≤ sizeP (xs.map Pr.data) + 8 + (m.length + v.length) := by rw [HI.out]; exact sizeP_ins _ _ _ _ _ (by omega) (by simp; omega)
        have KS := hid (size_pairs (c := c4) el4 (by rw [hyd]; omega))
        rw [hyd] at KS
        have HPV := hid (show ∀ y ∈ ys, y ∈ xs ∨ PrNew w.heap.size w4.heap.size y from by
          rw [← hys]
          intro y hy
          simp only [segAll, List.flatMap_cons, List.flatMap_nil, List.append_nil, List.mem_append, List.mem_singleton] at hy
          rcases hy with hy | rfl | hy
          · exact .inl (List.mem_of_mem_take hy)
          · exact .inr ⟨fk.out, fv.out⟩
          · exact .inl (List.mem_of_mem_drop hy))
        clear hys
        have HYD := hid hyd
        clear hyd
        generalize sizeP (insP (xs.map Pr.data) m v) = z at KS HP
        by_cases hq : 2048 < z
        · have HP2 := hid (HP.out.trans (if_pos hq))
          have j3 : (2048 : Int) < z := by omega
          clear HP hsz
          go_wp2_with fail
          refine KS.out.mono ?_
          rintro e w5 ⟨rfl, hb5⟩
          go_wp2_with fail
          go_ret2
          exact ⟨_, [], by rw [HP2.out]; rfl, by rw [HP2.out]; rfl, OwnEls.nil _ _ _ _, (fun y hy => by cases hy), below_step bx6 hb5⟩
        · have HP2 := hid (HP.out.trans (if_neg hq))
          have j3 : ¬ (2048 : Int) < z := by omega
          clear HP hsz
          go_wp2_with fail
          refine KS.out.mono ?_
          rintro e w5 ⟨rfl, hb5⟩
          go_wp2_with fail
          go_ret2
          exact ⟨_, ys, by rw [HP2.out]; rfl, by rw [HP2.out, HYD.out], (own4.mono bx5.size).below hb5, (fun y hy => (HPV.out y hy).imp id (fun hn => ⟨upA hn.1 hb5.size, upA hn.2 hb5.size⟩)), below_step bx6 hb5⟩

    · rw [h1] at KF
      have hat : atP (xs.map Pr.data) m = (i, i + 1) := by rw [atP, h2]
      have HI := hid (show insP (xs.map Pr.data) m v = (xs.map Pr.data).take i ++ (m, v) :: (xs.map Pr.data).drop (i + 1) by rw [insP, hat])
      clear h1 h2 hat
      have e1 : IntKind.i64.wrap ((i : Int) + 1) = (i : Int) + 1 := wrap_of _ (by omega) (by omega)
      have HP := hid hput
      clear hput
      go_enter Try.func10, Try.ntmps10
      go_wp2_with fail
      refine KF.out.mono ?_
      rintro e w2 ⟨rfl, hb2⟩
      have q2 := cell_on hb2 q1
      have b2 := below_step b1 hb2
      have sl1 := fun W => run_slice_max (P := Try.prog) Try.underlying22 infoP A xs.length c i .i64 .i64 (i : Int) (i : Int) (by omega) (by omega) (by omega) W
      have sl2 := fun W => run_slice_from (P := Try.prog) Try.underlying22 infoP A xs.length c (i + 1) .i64 ((i : Int) + 1) (by omega) (by omega) W
      have HL1 := hid (show (xs.take i).length = i by simp; omega)
      have HL2 := hid (show (xs.drop (i + 1)).length = xs.length - (i + 1) by simp)
      have E1 := hid (h.take i)
      have E2 := hid (h.cut (i + 1) hc)
      generalize hA2 : cutA A c (i + 1) 2 = A2 at sl2
      rw [show prEl.sz = 2 from rfl, hA2] at E2
      clear hA2
      go_upto_region 10 with fail
      have qq := fun W (hW : Below w2.heap.size w2 W) => cell_on hW q2
      have KC1 := hid (fun W (hW : Below w.heap.size w W) => clone_any (c := d) (g.below hW) hm)
      have KC2 := hid (fun W (hW : Below w.heap.size w W) => clone_any (c := f) (gv.below hW) hv)
      refine wp_region_noPanic ?_
      refine wp_region_held_drew (S := (fun W => Below w2.heap.size w2 W)) (by kernel_rfl) ?_ (fun hHeld => ?_)
      · exact (Below.refl _ _).drew
      refine wpAnyH_take (i := 0) (oi := ?oi33) (v := ?v33) ?hi33 (by kernel_rfl) (by kernel_rfl) (by kernel_rfl) ?hQ33 ?hy33 (by assumption) ?hrest33
      case hi33 => (simp only [List.getElem?_toArray, List.getElem?_cons_zero]; try rfl)
      case hQ33 => exact fun _ _ _ h => h
      case hy33 =>
        refine Or.inl ⟨by rfl, ?_⟩
        (intro wq hSw; (try dsimp only at hSw); go_simp; try with_reducible rfl)
      (try simp only [Act.put, List.setIfInBounds_toArray, List.set_cons_zero, List.set_cons_succ])
      refine wpAnyH_take (i := 1) (oi := ?oi34) (v := ?v34) ?hi34 (by kernel_rfl) (by kernel_rfl) (by kernel_rfl) ?hQ34 ?hy34 (by assumption) ?hrest34
      case hi34 => (simp only [List.getElem?_toArray, List.getElem?_cons_succ, List.getElem?_cons_zero]; try rfl)
      case hQ34 => exact fun _ _ _ h => h
      case hy34 =>
        refine Or.inl ⟨by rfl, ?_⟩
        (intro wq hSw; (try dsimp only at hSw); go_simp; try with_reducible rfl)
      (try simp only [Act.put, List.setIfInBounds_toArray, List.set_cons_zero, List.set_cons_succ])
      refine wpAnyH_take (i := 2) (oi := ?oi35) (v := ?v35) ?hi35 (by kernel_rfl) (by kernel_rfl) (by kernel_rfl) ?hQ35 ?hy35 (by assumption) ?hrest35
      case hi35 => (simp only [List.getElem?_toArray, List.getElem?_cons_succ, List.getElem?_cons_zero]; try rfl)
      case hQ35 => exact fun _ _ _ h => h
      case hy35 =>
        refine Or.inl ⟨by rfl, ?_⟩
        (intro wq hSw; (try dsimp only at hSw); go_simp; try with_reducible rfl)
      (try simp only [Act.put, List.setIfInBounds_toArray, List.set_cons_zero, List.set_cons_succ])
      refine wpAnyH_take (i := 3) (oi := ?oi36) (v := ?v36) ?hi36 (by kernel_rfl) (by kernel_rfl) (by kernel_rfl) ?hQ36 ?hy36 (by assumption) ?hrest36
      case hi36 => (simp only [List.getElem?_toArray, List.getElem?_cons_succ, List.getElem?_cons_zero]; try rfl)
      case hQ36 => exact fun _ _ _ h => h
      case hy36 =>
        refine Or.inl ⟨by rfl, ?_⟩
        (intro wq hSw; (try dsimp only at hSw); go_simp; try with_reducible rfl)
      (try simp only [Act.put, List.setIfInBounds_toArray, List.set_cons_zero, List.set_cons_succ])
      refine wpAnyH_take (i := 4) (oi := ?oi37) (v := ?v37) ?hi37 (by kernel_rfl) (by kernel_rfl) (by kernel_rfl) ?hQ37 ?hy37 (by assumption) ?hrest37
      case hi37 => (simp only [List.getElem?_toArray, List.getElem?_cons_succ, List.getElem?_cons_zero]; try rfl)
      case hQ37 => exact fun _ _ _ h => h
      case hy37 =>
        refine Or.inl ⟨by rfl, ?_⟩
        (intro wq hSw; (try dsimp only at hSw); go_simp; try with_reducible rfl)
      (try simp only [Act.put, List.setIfInBounds_toArray, List.set_cons_zero, List.set_cons_succ])
      refine wpAnyH_take (i := 6) (oi := ?oi38) (v := ?v38) ?hi38 (by kernel_rfl) (by kernel_rfl) (by kernel_rfl) ?hQ38 ?hy38 (by assumption) ?hrest38
      case hi38 => (simp only [List.getElem?_toArray, List.getElem?_cons_succ, List.getElem?_cons_zero]; try rfl)
      case hQ38 => exact fun _ _ _ h => h
      case hy38 =>
        refine Or.inl ⟨by rfl, ?_⟩
        (intro wq hSw; (try dsimp only at hSw); go_simp; try with_reducible rfl)
      (try simp only [Act.put, List.setIfInBounds_toArray, List.set_cons_zero, List.set_cons_succ])
      refine wpAnyH_take (i := 10) (oi := ?oi39) (v := ?v39) ?hi39 (by kernel_rfl) (by kernel_rfl) (by kernel_rfl) ?hQ39 ?hy39 (by assumption) ?hrest39
      case hi39 => (simp only [List.getElem?_toArray, List.getElem?_cons_succ, List.getElem?_cons_zero]; try rfl)
      case hQ39 => exact fun _ _ _ h => h
      case hy39 =>
        refine Or.inl ⟨by rfl, ?_⟩
        (intro wq hSw; (try dsimp only at hSw); go_simp; try with_reducible rfl)
      (try simp only [Act.put, List.setIfInBounds_toArray, List.set_cons_zero, List.set_cons_succ])
      refine wpAnyH_take (i := 11) (oi := ?oi40) (v := ?v40) ?hi40 (by kernel_rfl) (by kernel_rfl) (by kernel_rfl) ?hQ40 ?hy40 (by assumption) ?hrest40
      case hi40 => (simp only [List.getElem?_toArray, List.getElem?_cons_succ, List.getElem?_cons_zero]; try rfl)
      case hQ40 => exact fun _ _ _ h => h
      case hy40 =>
        refine Or.inl ⟨by rfl, ?_⟩
        (intro wq hSw; (try dsimp only at hSw); go_simp; try with_reducible rfl)
      (try simp only [Act.put, List.setIfInBounds_toArray, List.set_cons_zero, List.set_cons_succ])
      refine wpAnyH_take (i := 12) (oi := ?oi41) (v := ?v41) ?hi41 (by kernel_rfl) (by kernel_rfl) (by kernel_rfl) ?hQ41 ?hy41 (by assumption) ?hrest41
      case hi41 => (simp only [List.getElem?_toArray, List.getElem?_cons_succ, List.getElem?_cons_zero]; try rfl)
      case hQ41 => exact fun _ _ _ h => h
      case hy41 =>
        refine Or.inl ⟨by rfl, ?_⟩
        (intro wq hSw; (try dsimp only at hSw); go_simp; try with_reducible rfl)
      (try simp only [Act.put, List.setIfInBounds_toArray, List.set_cons_zero, List.set_cons_succ])
      refine wpAnyH_ready (rs := [5]) (by kernel_rfl) (by simp) ?_
      refine AllReadyH.cons (o := ?oi42) ?hi42 (fun K hK => ?hstep42) AllReadyH.nil
      case hi42 => (simp only [List.getElem?_toArray, List.getElem?_cons_succ, List.getElem?_cons_zero]; try rfl)
      go_simp
      (have bx1 := below_step b2 hHeld; refine (KC1.out _ bx1).mono ?_; rintro e wx ⟨vk, rfl, ownk, hbx⟩; obtain ⟨Ka, kc, rfl, _⟩ := own_shape ownk; have slk := own_sl ownk; have fk := hid (fun ad (hA : Ka = some ad) => (show w.heap.size ≤ ad.block ∧ ad.block < wx.heap.size from ⟨Nat.le_trans bx1.size (own_lt ownk (k := ad.block) (by rw [hA]; rfl)).1, (own_lt ownk (k := ad.block) (by rw [hA]; rfl)).2⟩)); have bx2 := below_step bx1 hbx)
      refine hK.out _ _ ?_ (fun hHeld => ?_)
      · exact below_step hHeld hbx
      clear hK K
      (try simp only [Act.put, List.setIfInBounds_toArray, List.set_cons_zero, List.set_cons_succ])
      refine wpAnyH_ready (rs := [7]) (by kernel_rfl) (by simp) ?_
      refine AllReadyH.cons (o := ?oi43) ?hi43 (fun K hK => ?hstep43) AllReadyH.nil
      case hi43 => (simp only [List.getElem?_toArray, List.getElem?_cons_succ, List.getElem?_cons_zero]; try rfl)
      go_simp
      (refine (KC2.out _ bx2).mono ?_; rintro e wy ⟨vw, rfl, ownv, hbx⟩; obtain ⟨V2, vc, rfl, _⟩ := own_shape ownv; have slv := own_sl ownv; have fv := hid (fun ad (hA : V2 = some ad) => (show w.heap.size ≤ ad.block ∧ ad.block < wy.heap.size from ⟨Nat.le_trans bx2.size (own_lt ownv (k := ad.block) (by rw [hA]; rfl)).1, (own_lt ownv (k := ad.block) (by rw [hA]; rfl)).2⟩)); have fk := hid (upA fk.out hbx.size); have bx3 := below_step bx2 hbx; have slk := slk.keep (fun p u hp => cell_on hbx hp))
      refine hK.out _ _ ?_ (fun hHeld => ?_)
      · exact below_step hHeld hbx
      clear hK K
      (try simp only [Act.put, List.setIfInBounds_toArray, List.set_cons_zero, List.set_cons_succ])
      refine wpAnyH_take (i := 8) (oi := ?oi44) (v := ?v44) ?hi44 (by kernel_rfl) (by kernel_rfl) (by kernel_rfl) ?hQ44 ?hy44 (by assumption) ?hrest44
      case hi44 => (simp only [List.getElem?_toArray, List.getElem?_cons_succ, List.getElem?_cons_zero]; try rfl)
      case hQ44 => exact fun _ _ _ h => h
      case hy44 =>
        refine Or.inl ⟨by rfl, ?_⟩
        (intro wq hSw; (try dsimp only at hSw); go_simp; try with_reducible rfl)
      (try simp only [Act.put, List.setIfInBounds_toArray, List.set_cons_zero, List.set_cons_succ])
      refine wpAnyH_ready (rs := [9]) (by kernel_rfl) (by simp) ?_
      refine AllReadyH.cons (o := ?oi45) ?hi45 (fun K hK => ?hstep45) AllReadyH.nil
      case hi45 => (simp only [List.getElem?_toArray, List.getElem?_cons_succ, List.getElem?_cons_zero]; try rfl)
      go_simp
      ((first | refine newvar_Kd ?_ | refine newvar_K ?_); intro wz hbx nv nf nz; have n0 := nv 0 _ rfl; have n1 := nv 1 _ rfl; have fk := hid (upA fk.out hbx.size); have fv := hid (upA fv.out hbx.size); have slk := slk.keep (fun p u hp => cell_on hbx hp); have slv := slv.keep (fun p u hp => cell_on hbx hp); have one := one_els n0 n1 slk slv; have bx4 := below_step bx3 hbx; clear nv nf nz)
      refine hK.out _ _ ?_ (fun hHeld => ?_)
      · exact below_step hHeld hbx
      clear hK K
      (try simp only [Act.put, List.setIfInBounds_toArray, List.set_cons_zero, List.set_cons_succ])
      refine wpAnyH_ready (rs := [13]) (by kernel_rfl) (by simp) ?_
      refine AllReadyH.cons (o := ?oi46) ?hi46 (fun K hK => ?hstep46) AllReadyH.nil
      case hi46 => (simp only [List.getElem?_toArray, List.getElem?_cons_succ, List.getElem?_cons_zero]; try rfl)
      go_simp
      ((first | refine newvar_Kd ?_ | refine newvar_K ?_); intro wu hbx nv nf nz; have k0 := nv 0 _ rfl; have k1 := nv 1 _ rfl; have k2 := nv 2 _ rfl; have fk := hid (upA fk.out hbx.size); have fv := hid (upA fv.out hbx.size); have one := one.below hbx; have bx5 := below_step bx4 hbx; clear nv nf nz)
      refine hK.out _ _ ?_ (fun hHeld => ?_)
      · exact below_step hHeld hbx
      clear hK K
      (try simp only [Act.put, List.setIfInBounds_toArray, List.set_cons_zero, List.set_cons_succ])
      refine wpAnyH_ready (rs := [14]) (by kernel_rfl) (by simp) ?_
      refine AllReadyH.cons (o := ?oi47) ?hi47 (fun K hK => ?hstep47) AllReadyH.nil
      case hi47 => (simp only [List.getElem?_toArray, List.getElem?_cons_succ, List.getElem?_cons_zero]; try rfl)
      go_simp
      (have hT : Rd wu (some ⟨wz.heap.size, 0, none⟩) ([(A, i, xs.take i), (some ⟨wy.heap.size, 0, none⟩, 1, [⟨Ka, kc, m, V2, vc, v⟩]), (A2, c - (i + 1), xs.drop (i + 1))].map segV) := rd3 (by rw [segV, HL1.out]; first | exact k0 | (subst hn; simpa using k0)) k1 (by rw [segV, HL2.out]; first | exact k2 | (subst hn; simpa using k2)); refine (concat_any hT (fun s hs => by rcases List.mem_cons.1 hs with rfl | hs; exact E1.out.below bx5; rcases List.mem_cons.1 hs with rfl | hs; exact one; rw [List.mem_singleton.1 hs]; exact E2.out.below bx5) (by simp) (by simp [segAll]; omega)).mono ?_; rintro e w4 ⟨v4, rfl, own4, hbx⟩; have fk := hid (upA fk.out hbx.size); have fv := hid (upA fv.out hbx.size); have bx6 := below_step bx5 hbx)
      refine hK.out _ _ ?_ (fun hHeld => ?_)
      · exact below_step hHeld hbx
      clear hK K
      (try simp only [Act.put, List.setIfInBounds_toArray, List.set_cons_zero, List.set_cons_succ])
      refine wpAnyH_take (i := 15) (oi := ?oi48) (v := ?v48) ?hi48 (by kernel_rfl) (by kernel_rfl) (by kernel_rfl) ?hQ48 ?hy48 (by assumption) ?hrest48
      case hi48 => (simp only [List.getElem?_toArray, List.getElem?_cons_succ, List.getElem?_cons_zero]; try rfl)
      case hQ48 => exact fun _ _ _ h => h
      case hy48 =>
        refine Or.inl ⟨by rfl, ?_⟩
        (intro wq hSw; (try dsimp only at hSw); go_simp; try with_reducible rfl)
      (try simp only [Act.put, List.setIfInBounds_toArray, List.set_cons_zero, List.set_cons_succ])
      refine wpAnyH_done (by kernel_rfl) ?_ _
      refine NoPanic.normal ?_
      obtain ⟨A4, c4, rfl, hc4, _, el4⟩ := own4.rd
      generalize hys : segAll [(A, i, xs.take i), (some ⟨wy.heap.size, 0, none⟩, 1, [⟨Ka, kc, m, V2, vc, v⟩]), (A2, c - (i + 1), xs.drop (i + 1))] = ys at own4 el4 hc4
      have hyd : ys.map Pr.data = insP (xs.map Pr.data) m v := by rw [HI.out, ← hys]; simp [segAll, Pr.data]
      have hsz : sizeP (insP (xs.map Pr.data) m v) ≤ sizeP (xs.map Pr.data) + 8 + (m.length + v.length) := by rw [HI.out]; exact sizeP_ins _ _ _ _ _ (by omega) (by simp; omega)
      have KS := hid (size_pairs (c := c4) el4 (by rw [hyd]; omega))
      rw [hyd] at KS
      have HPV := hid (show ∀ y ∈ ys, y ∈ xs ∨ PrNew w.heap.size w4.heap.size y from by
        rw [← hys]
        intro y hy
        simp only [segAll, List.flatMap_cons, List.flatMap_nil, List.append_nil, List.mem_append, List.mem_singleton] at hy
        rcases hy with hy | rfl | hy
        · exact .inl (List.mem_of_mem_take hy)
        · exact .inr ⟨fk.out, fv.out⟩
        · exact .inl (List.mem_of_mem_drop hy))
      clear hys
      have HYD := hid hyd
      clear hyd
      generalize sizeP (insP (xs.map Pr.data) m v) = z at KS HP
      by_cases hq : 2048 < z
      · have HP2 := hid (HP.out.trans (if_pos hq))
        have j3 : (2048 : Int) < z := by omega
        clear HP hsz
        go_wp2_with fail
        refine KS.out.mono ?_
        rintro e w5 ⟨rfl, hb5⟩
        go_wp2_with fail
        go_ret2
        exact ⟨_, [], by rw [HP2.out]; rfl, by rw [HP2.out]; rfl, OwnEls.nil _ _ _ _, (fun y hy => by cases hy), below_step bx6 hb5⟩
      · have HP2 := hid (HP.out.trans (if_neg hq))
        have j3 : ¬ (2048 : Int) < z := by omega
        clear HP hsz
        go_wp2_with fail
        refine KS.out.mono ?_
        rintro e w5 ⟨rfl, hb5⟩
        go_wp2_with fail
        go_ret2
        exact ⟨_, ys, by rw [HP2.out]; rfl, by rw [HP2.out, HYD.out], (own4.mono bx5.size).below hb5, (fun y hy => (HPV.out y hy).imp id (fun hn => ⟨upA hn.1 hb5.size, upA hn.2 hb5.size⟩)), below_step bx6 hb5⟩
end Go.Proofs.Ytkmeoobbjdbhjaa
