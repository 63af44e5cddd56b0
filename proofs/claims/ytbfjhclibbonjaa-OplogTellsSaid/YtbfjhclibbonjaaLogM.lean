import Derived.Test.YtbfjhclibbonjaaLogL
namespace Go.Proofs.Ytbfjhclibbonjaa
open Go.RowKit Go.Cov
set_option maxRecDepth 100000 in
set_option maxHeartbeats 1000000 in
theorem rcut_any {s : Int} {A : Option Addr} {c : Nat} {xs : List En} {L : EL} {w : World} (h : Lg w A c xs L) (n : Int) :
    Calls Try.prog 21 #[.agg #[.int .i64 s, .slice A xs.length c], .int .i64 n] w fun e w' => ∃ C q ys, e = .returned (.tuple #[.agg #[.int .i64 (cutR s L n).1, .slice C (ys : List En).length q], .int .i64 (cutR s L n).2.2]) ∧ Lg w' C q ys (cutR s L n).2.1 ∧ Below w.heap.size w w' := by
  have hb1 := below_alloc w (.cells #[.int .i64 s, .slice A xs.length c] 26)
  have hb2 := below_step hb1 (below_alloc (w.alloc (.cells #[.int .i64 s, .slice A xs.length c] 26)) (.cells #[.int .i64 0, .slice none 0 0] 26))
  have K := hid (within_any (s := s) (h.below hb2) n)
  have V := hid (Var2.new (w.alloc (.cells #[.int .i64 s, .slice A xs.length c] 26)) (.int .i64 0) (.slice none 0 0) 26)
  have U := hid ((Var2.new w (.int .i64 s) (.slice A xs.length c) 26).on (below_alloc _ (.cells #[.int .i64 0, .slice none 0 0] 26)))
  have hws : w.heap.size ≤ w.heap.size + 1 := by omega
  rcases atL_cases s L n with ha | ⟨i, ha, hn, hi, hr⟩
  · rw [show cutR s L n = (0, [], 1) by rw [cutR, ha]]
    rw [ha] at K
    clear ha
    go_enter Try.func21, Try.ntmps21
    go_wp2_with fail
    refine K.out.mono ?_
    rintro e w2 ⟨rfl, hb3⟩
    obtain ⟨v0, v1, f0, f1, hz⟩ := V.out.on hb3
    rw [size_run] at v0 v1 f0 f1 hz
    obtain ⟨z0, z1⟩ := set2_cells v0 v1 (.int .i64 0) (.slice none 0 0)
    go_wp2_with fail
    refine bodyPost_ret (v := .tuple #[.agg #[.int .i64 0, .slice none 0 0], .int .i64 1]) (by simp [results, Try.results21, go_sem, z0, z1]) rfl ?_
    exact ⟨none, 0, [], rfl, lg_nil _, ((below_step hb2 hb3).setCell (p := ⟨w.heap.size + 1, 0, none⟩) hws _).setCell (p := ⟨w.heap.size + 1, 1, none⟩) hws _⟩
  · rw [show cutR s L n = (n, L.drop i, 0) by rw [cutR, ha]]
    rw [ha] at K
    have hxl := h.len
    obtain ⟨_, r2, r3, _⟩ := rightL_iff.1 hr
    have hix : i ≤ xs.length := by omega
    have hz : xs.length ≤ 64 := by omega
    have hcap := h.2.1
    have e0 : IntKind.i64.wrap (n - s) = (i : Int) := (wrap_of _ (by omega) (by omega)).trans (by omega)
    have sl2 := fun W => run_slice_from (P := Try.prog) Try.underlying24 infoE A xs.length c i .i64 (i : Int) (by omega) (by omega) W
    have HD := hid (show (xs.drop i).length = xs.length - i by simp)
    have E2 := hid (fun W (hW : Below w.heap.size w W) => (h.below hW).1.cut i h.2.1)
    have HM := hid (show (xs.drop i).map En.data = L.drop i by rw [List.map_drop, h.2.2])
    have HOLD := hid (fun a (ha : a ∈ xs.drop i) => h.1.2 a (List.mem_of_mem_drop ha))
    generalize hA2 : cutA A c i 3 = A2 at sl2
    rw [show enEl.sz = 3 from rfl, hA2] at E2
    clear hA2 ha hr hn hxl hi r2 r3 h
    go_enter Try.func21, Try.ntmps21
    go_wp2_with fail
    refine K.out.mono ?_
    rintro e w2 ⟨rfl, hb3⟩
    obtain ⟨u0, u1, _⟩ := U.out.on hb3
    have V2 := V.out.on hb3
    rw [size_run] at V2
    have hbz : w.heap.size + 1 < w2.heap.size := V2.2.2.2.2
    have b3 := below_step hb2 hb3
    have hmo := made_own w2 32
    have ba := below_alloc w2 (.cells #[] 32)
    have u0 := cell_on ba u0
    have u1 := cell_on ba u1
    have b4 := below_step b3 ba
    have hEd := E2.out _ b4
    have hoff := made_off HOLD.out b4 (v := .slice (some ⟨w2.heap.size, 0, none⟩) 0 0) (fun k hk => by simp [Value.ownBlock] at hk; have := b3.size; omega)
    obtain ⟨us, hus⟩ : ∃ us, us = xs.drop i := ⟨_, rfl⟩
    have hold : ∀ a ∈ us, ∀ p ∈ enEl.cons a, Sl w p.1 p.2 := by rw [hus]; exact HOLD.out
    have HM2 := hid HM.out
    have HD2 := hid HD.out
    rw [← hus] at hEd hoff HM2 HD2
    clear hus HM HD E2 HOLD
    have hu64 : us.length ≤ 64 := by have := HD2.out; omega
    go_wp2_with (at_builtin; refine wpList_app rfl (.tmp 14) (.tmp 21) 24 rfl w2.heap.size 32 Try.underlying24 infoE rfl (by decide) (.slice (some ⟨w2.heap.size, 0, none⟩) 0 0) 0 [] rfl hmo A2 (xs.length - i) (c - i) (us.flatMap enEl.cells) rfl (by rw [enEl.flat_len, HD2.out]; rfl) hEd.1 (enEl.flat_one _) (by omega) (by omega) (by simp) ?_; intro v5 w5 hin5 hg5 hat5; have hb5 : Below w2.heap.size w2 w5 := ba.grown hg5 (by simp) (by intro k hk; simp [Value.ownBlock] at hk; omega); rw [show (0 : Nat) + (xs.length - i) = 0 + us.length by rw [HD2.out]] at hin5; have hnew := OwnEls.app (xs := []) (ys := us) (fun a ha => by simp at ha) hoff hin5 hg5 hat5; obtain ⟨C, q, hv5, _⟩ := own_lg hnew; rw [List.nil_append] at hv5 hnew; subst hv5; have V5 := V2.on hb5; obtain ⟨v0, v1, f0, f1, hz⟩ := V5; obtain ⟨z0, z1⟩ := set2_cells v0 v1 (.int .i64 n) (.slice C us.length q); have bf := ((below_step b3 hb5).setCell (p := ⟨w.heap.size + 1, 0, none⟩) hws (.int .i64 n)).setCell (p := ⟨w.heap.size + 1, 1, none⟩) hws (.slice C us.length q); have bl := lg_two hnew hold hbz bf; rw [HM2.out] at bl)
    refine bodyPost_ret (v := .tuple #[.agg #[.int .i64 n, .slice C us.length q], .int .i64 0]) (by simp [results, Try.results21, go_sem, z0, z1]) rfl ?_
    exact ⟨C, q, us, rfl, bl, bf⟩
set_option maxRecDepth 100000 in
set_option maxHeartbeats 1000000 in
theorem rtrim_any {s : Int} {A : Option Addr} {c : Nat} {xs : List En} {L : EL} {w : World} (h : Lg w A c xs L) (n : Int) :
    Calls Try.prog 23 #[.agg #[.int .i64 s, .slice A xs.length c], .int .i64 n] w fun e w' => ∃ C q ys, e = .returned (.tuple #[.agg #[.int .i64 (trimR s L n).1, .slice C (ys : List En).length q], .int .i64 (trimR s L n).2.2]) ∧ Lg w' C q ys (trimR s L n).2.1 ∧ Below w.heap.size w w' := by
  have hb1 := below_alloc w (.cells #[.int .i64 s, .slice A xs.length c] 26)
  have hb2 := below_step hb1 (below_alloc (w.alloc (.cells #[.int .i64 s, .slice A xs.length c] 26)) (.cells #[.int .i64 0, .slice none 0 0] 26))
  have K := hid (within_any (s := s) (h.below hb2) n)
  have V := hid (Var2.new (w.alloc (.cells #[.int .i64 s, .slice A xs.length c] 26)) (.int .i64 0) (.slice none 0 0) 26)
  have U := hid ((Var2.new w (.int .i64 s) (.slice A xs.length c) 26).on (below_alloc _ (.cells #[.int .i64 0, .slice none 0 0] 26)))
  have hws : w.heap.size ≤ w.heap.size + 1 := by omega
  rcases atL_cases s L n with ha | ⟨i, ha, hn, hi, hr⟩
  · rw [show trimR s L n = (0, [], 1) by rw [trimR, ha]]
    rw [ha] at K
    clear ha
    go_enter Try.func23, Try.ntmps23
    go_wp2_with fail
    refine K.out.mono ?_
    rintro e w2 ⟨rfl, hb3⟩
    obtain ⟨v0, v1, f0, f1, hz⟩ := V.out.on hb3
    rw [size_run] at v0 v1 f0 f1 hz
    obtain ⟨z0, z1⟩ := set2_cells v0 v1 (.int .i64 0) (.slice none 0 0)
    go_wp2_with fail
    refine bodyPost_ret (v := .tuple #[.agg #[.int .i64 0, .slice none 0 0], .int .i64 1]) (by simp [results, Try.results23, go_sem, z0, z1]) rfl ?_
    exact ⟨none, 0, [], rfl, lg_nil _, ((below_step hb2 hb3).setCell (p := ⟨w.heap.size + 1, 0, none⟩) hws _).setCell (p := ⟨w.heap.size + 1, 1, none⟩) hws _⟩
  · rw [show trimR s L n = (s, L.take i, 0) by rw [trimR, ha]]
    rw [ha] at K
    have hxl := h.len
    obtain ⟨_, r2, r3, _⟩ := rightL_iff.1 hr
    have hix : i ≤ xs.length := by omega
    have hz : xs.length ≤ 64 := by omega
    have hcap := h.2.1
    have e0 : IntKind.i64.wrap (n - s) = (i : Int) := (wrap_of _ (by omega) (by omega)).trans (by omega)
    have sl2 := fun W => run_slice_to (P := Try.prog) Try.underlying24 infoE A xs.length c i .i64 (i : Int) rfl (by omega) W
    have HD := hid (show (xs.take i).length = i by simp; omega)
    have E2 := hid (fun W (hW : Below w.heap.size w W) => (h.below hW).1.take i)
    have HM := hid (show (xs.take i).map En.data = L.take i by rw [List.map_take, h.2.2])
    have HOLD := hid (fun a (ha : a ∈ xs.take i) => h.1.2 a (List.mem_of_mem_take ha))
    clear ha hr hn hxl hi r2 r3 h
    go_enter Try.func23, Try.ntmps23
    go_wp2_with fail
    refine K.out.mono ?_
    rintro e w2 ⟨rfl, hb3⟩
    obtain ⟨u0, u1, _⟩ := U.out.on hb3
    have V2 := V.out.on hb3
    rw [size_run] at V2
    have hbz : w.heap.size + 1 < w2.heap.size := V2.2.2.2.2
    have b3 := below_step hb2 hb3
    obtain ⟨us, hus⟩ : ∃ us, us = xs.take i := ⟨_, rfl⟩
    have hold : ∀ a ∈ us, ∀ p ∈ enEl.cons a, Sl w p.1 p.2 := by rw [hus]; exact HOLD.out
    have HM2 := hid HM.out
    have HD2 := hid HD.out
    rw [← hus] at HM2 HD2 E2
    clear hus HM HD HOLD
    have hu64 : us.length ≤ 64 := by have := HD2.out; omega
    have u0q := fun W (hW : Below (w.heap.size + 1) w2 W) => (hW.cell (p := ⟨w.heap.size, 0, none⟩) (Nat.lt_succ_self _)).trans u0
    have u1q := fun W (hW : Below (w.heap.size + 1) w2 W) => (hW.cell (p := ⟨w.heap.size, 1, none⟩) (Nat.lt_succ_self _)).trans u1
    clear u0 u1
    go_upto_region 4 with fail
    refine wp_region_noPanic ?_
    refine wp_region_held_drew (S := (fun W => Below (w.heap.size + 1) w2 W)) (by kernel_rfl) ?_ (fun hHeld => ?_)
    · exact (Below.refl _ _).drew
    refine wpAnyH_take (i := 0) (oi := ?oi1) (v := ?v1) ?hi1 (by kernel_rfl) (by kernel_rfl) (by kernel_rfl) ?hQ1 ?hy1 (by assumption) ?hrest1
    case hi1 => (simp only [List.getElem?_toArray, List.getElem?_cons_zero]; try rfl)
    case hQ1 => exact fun _ _ _ h => h
    case hy1 =>
      refine Or.inl ⟨by rfl, ?_⟩
      (intro wq hSw; (try dsimp only at hSw); go_simp; try with_reducible rfl)
    (try simp only [Act.put, List.setIfInBounds_toArray, List.set_cons_zero, List.set_cons_succ])
    refine wpAnyH_take (i := 1) (oi := ?oi2) (v := ?v2) ?hi2 (by kernel_rfl) (by kernel_rfl) (by kernel_rfl) ?hQ2 ?hy2 (by assumption) ?hrest2
    case hi2 => (simp only [List.getElem?_toArray, List.getElem?_cons_succ, List.getElem?_cons_zero]; try rfl)
    case hQ2 => exact fun _ _ _ h => h
    case hy2 =>
      refine Or.inl ⟨by rfl, ?_⟩
      (intro wq hSw; (try dsimp only at hSw); go_simp; try with_reducible rfl)
    (try simp only [Act.put, List.setIfInBounds_toArray, List.set_cons_zero, List.set_cons_succ])
    refine wpAnyH_take (i := 3) (oi := ?oi3) (v := ?v3) ?hi3 (by kernel_rfl) (by kernel_rfl) (by kernel_rfl) ?hQ3 ?hy3 (by assumption) ?hrest3
    case hi3 => (simp only [List.getElem?_toArray, List.getElem?_cons_succ, List.getElem?_cons_zero]; try rfl)
    case hQ3 => exact fun _ _ _ h => h
    case hy3 =>
      refine Or.inl ⟨by rfl, ?_⟩
      (intro wq hSw; (try dsimp only at hSw); go_simp; try with_reducible rfl)
    (try simp only [Act.put, List.setIfInBounds_toArray, List.set_cons_zero, List.set_cons_succ])
    refine wpAnyH_take (i := 4) (oi := ?oi4) (v := ?v4) ?hi4 (by kernel_rfl) (by kernel_rfl) (by kernel_rfl) ?hQ4 ?hy4 (by assumption) ?hrest4
    case hi4 => (simp only [List.getElem?_toArray, List.getElem?_cons_succ, List.getElem?_cons_zero]; try rfl)
    case hQ4 => exact fun _ _ _ h => h
    case hy4 =>
      refine Or.inl ⟨by rfl, ?_⟩
      (intro wq hSw; (try dsimp only at hSw); go_simp; try with_reducible rfl)
    (try simp only [Act.put, List.setIfInBounds_toArray, List.set_cons_zero, List.set_cons_succ])
    refine wpAnyH_take (i := 5) (oi := ?oi5) (v := ?v5) ?hi5 (by kernel_rfl) (by kernel_rfl) (by kernel_rfl) ?hQ5 ?hy5 (by assumption) ?hrest5
    case hi5 => (simp only [List.getElem?_toArray, List.getElem?_cons_succ, List.getElem?_cons_zero]; try rfl)
    case hQ5 => exact fun _ _ _ h => h
    case hy5 =>
      refine Or.inl ⟨by rfl, ?_⟩
      (intro wq hSw; (try dsimp only at hSw); go_simp; try with_reducible rfl)
    (try simp only [Act.put, List.setIfInBounds_toArray, List.set_cons_zero, List.set_cons_succ])
    refine wpAnyH_take (i := 6) (oi := ?oi6) (v := ?v6) ?hi6 (by kernel_rfl) (by kernel_rfl) (by kernel_rfl) ?hQ6 ?hy6 (by assumption) ?hrest6
    case hi6 => (simp only [List.getElem?_toArray, List.getElem?_cons_succ, List.getElem?_cons_zero]; try rfl)
    case hQ6 => exact fun _ _ _ h => h
    case hy6 =>
      refine Or.inl ⟨by rfl, ?_⟩
      (intro wq hSw; (try dsimp only at hSw); go_simp; try with_reducible rfl)
    (try simp only [Act.put, List.setIfInBounds_toArray, List.set_cons_zero, List.set_cons_succ])
    refine wpAnyH_take (i := 7) (oi := ?oi7) (v := ?v7) ?hi7 (by kernel_rfl) (by kernel_rfl) (by kernel_rfl) ?hQ7 ?hy7 (by assumption) ?hrest7
    case hi7 => (simp only [List.getElem?_toArray, List.getElem?_cons_succ, List.getElem?_cons_zero]; try rfl)
    case hQ7 => exact fun _ _ _ h => h
    case hy7 =>
      refine Or.inl ⟨by rfl, ?_⟩
      (intro wq hSw; (try dsimp only at hSw); go_simp; try with_reducible rfl)
    (try simp only [Act.put, List.setIfInBounds_toArray, List.set_cons_zero, List.set_cons_succ])
    refine wpAnyH_take (i := 8) (oi := ?oi8) (v := ?v8) ?hi8 (by kernel_rfl) (by kernel_rfl) (by kernel_rfl) ?hQ8 ?hy8 (by assumption) ?hrest8
    case hi8 => (simp only [List.getElem?_toArray, List.getElem?_cons_succ, List.getElem?_cons_zero]; try rfl)
    case hQ8 => exact fun _ _ _ h => h
    case hy8 =>
      refine Or.inl ⟨by rfl, ?_⟩
      (intro wq hSw; (try dsimp only at hSw); go_simp; try with_reducible rfl)
    (try simp only [Act.put, List.setIfInBounds_toArray, List.set_cons_zero, List.set_cons_succ])
    refine wpAnyH_take (i := 9) (oi := ?oi9) (v := ?v9) ?hi9 (by kernel_rfl) (by kernel_rfl) (by kernel_rfl) ?hQ9 ?hy9 (by assumption) ?hrest9
    case hi9 => (simp only [List.getElem?_toArray, List.getElem?_cons_succ, List.getElem?_cons_zero]; try rfl)
    case hQ9 => exact fun _ _ _ h => h
    case hy9 =>
      refine Or.inl ⟨by rfl, ?_⟩
      (intro wq hSw; (try dsimp only at hSw); go_simp; try with_reducible rfl)
    (try simp only [Act.put, List.setIfInBounds_toArray, List.set_cons_zero, List.set_cons_succ])
    refine wpAnyH_ready (rs := [2]) (by kernel_rfl) (by simp) ?_
    refine AllReadyH.cons (o := ?oi10) ?hi10 (fun K hK => ?hstep10) AllReadyH.nil
    case hi10 => (simp only [List.getElem?_toArray, List.getElem?_cons_succ, List.getElem?_cons_zero]; try rfl)
    go_simp
    (have hmo := made_own w2.drew 32; have ba := below_step (Below.refl w2.heap.size w2).drew (below_alloc w2.drew (.cells #[] 32)); have b4 := below_step b3 ba; have hEd := E2.out _ b4; have hoff := made_off hold b4 (v := .slice (some ⟨w2.drew.heap.size, 0, none⟩) 0 0) (fun k hk => by simp [Value.ownBlock] at hk; have := b3.size; omega))
    refine hK.out _ _ ?_ (fun hHeld => ?_)
    · exact hHeld.trans ((below_alloc w2.drew (.cells #[] 32)).mono (by have := hHeld.size; omega))
    clear hK K
    (try simp only [Act.put, List.setIfInBounds_toArray, List.set_cons_zero, List.set_cons_succ])
    refine wpAnyH_ready (rs := [10]) (by kernel_rfl) (by simp) ?_
    refine AllReadyH.cons (o := ?oi11) ?hi11 (fun K hK => ?hstep11) AllReadyH.nil
    case hi11 => (simp only [List.getElem?_toArray, List.getElem?_cons_succ, List.getElem?_cons_zero]; try rfl)
    (refine oper_app2 rfl (.tmp 15) (.tmp 22) 24 rfl w2.drew.heap.size 32 Try.underlying24 infoE rfl (by decide) (.slice (some ⟨w2.drew.heap.size, 0, none⟩) 0 0) 0 [] rfl hmo A i c (us.flatMap enEl.cells) rfl (by rw [enEl.flat_len, HD2.out]; rfl) hEd.1 (enEl.flat_one _) (by omega) (by omega) (by simp) ?_; intro v5 w5 hin5 hg5 hat5; have hb5 : Below w2.heap.size w2 w5 := ba.grown hg5 ba.size (by intro k hk; simp [Value.ownBlock] at hk; omega); rw [show (0 : Nat) + i = 0 + us.length by rw [HD2.out]] at hin5; have hnew := OwnEls.app (xs := []) (ys := us) (fun a ha => by simp at ha) hoff hin5 hg5 hat5; obtain ⟨C, q, hv5, _⟩ := own_lg hnew; rw [List.nil_append] at hv5 hnew; subst hv5; obtain ⟨v0, v1, f0, f1, hz5⟩ := V2.on hb5)
    refine hK.out _ _ ?_ (fun hHeld => ?_)
    · exact hHeld.grown hg5 (by have := hHeld.size; omega) (by intro k hk; simp [Value.ownBlock] at hk; omega)
    clear hK K
    (try simp only [Act.put, List.setIfInBounds_toArray, List.set_cons_zero, List.set_cons_succ])
    refine wpAnyH_take (i := 11) (oi := ?oi12) (v := ?v12) ?hi12 (by kernel_rfl) (by kernel_rfl) (by kernel_rfl) ?hQ12 ?hy12 (by assumption) ?hrest12
    case hi12 => (simp only [List.getElem?_toArray, List.getElem?_cons_succ, List.getElem?_cons_zero]; try rfl)
    case hQ12 => exact fun _ _ _ h => h
    case hy12 =>
      refine Or.inl ⟨by rfl, ?_⟩
      (intro wq hSw; (try dsimp only at hSw); go_simp; try with_reducible rfl)
    (try simp only [Act.put, List.setIfInBounds_toArray, List.set_cons_zero, List.set_cons_succ])
    refine wpAnyH_ready (rs := [12]) (by kernel_rfl) (by simp) ?_
    refine AllReadyH.cons (o := ?oi13) ?hi13 (fun K hK => ?hstep13) AllReadyH.nil
    case hi13 => (simp only [List.getElem?_toArray, List.getElem?_cons_succ, List.getElem?_cons_zero]; try rfl)
    go_simp
    (skip)
    refine hK.out _ _ ?_ (fun hHeld => ?_)
    · exact (hHeld.setCell (p := ⟨w.heap.size + 1, 0, none⟩) (Nat.le_refl _) _).setCell (p := ⟨w.heap.size + 1, 1, none⟩) (Nat.le_refl _) _
    clear hK K
    (try simp only [Act.put, List.setIfInBounds_toArray, List.set_cons_zero, List.set_cons_succ])
    refine wpAnyH_take (i := 13) (oi := ?oi14) (v := ?v14) ?hi14 (by kernel_rfl) (by kernel_rfl) (by kernel_rfl) ?hQ14 ?hy14 (by assumption) ?hrest14
    case hi14 => (simp only [List.getElem?_toArray, List.getElem?_cons_succ, List.getElem?_cons_zero]; try rfl)
    case hQ14 => exact fun _ _ _ h => h
    case hy14 =>
      refine Or.inl ⟨by rfl, ?_⟩
      (intro wq hSw; (try dsimp only at hSw); go_simp; try with_reducible rfl)
    (try simp only [Act.put, List.setIfInBounds_toArray, List.set_cons_zero, List.set_cons_succ])
    refine wpAnyH_done (by kernel_rfl) ?_ _
    refine NoPanic.normal ?_
    go_wp2_with fail
    obtain ⟨z0, z1⟩ := set2_cells v0 v1 (.int .i64 s) (.slice C us.length q)
    have bf := b3.trans (hHeld.mono hws)
    have bl := lg_two hnew hold hbz bf
    rw [HM2.out] at bl
    refine bodyPost_ret (v := .tuple #[.agg #[.int .i64 s, .slice C us.length q], .int .i64 0]) (by simp [results, Try.results23, go_sem, z0, z1]) rfl ?_
    exact ⟨C, q, us, rfl, bl, bf⟩
end Go.Proofs.Ytbfjhclibbonjaa
