import Derived.Test.YtbfjhclibbonjaaLogM
namespace Go.Proofs.Ytbfjhclibbonjaa
open Go.RowKit Go.Cov
theorem newrow_K {K : Act → World → Prop} {a : Act} {W : World} {t : TypeId} (B : Nat) (hB : B ≤ W.heap.size)
    (h : ∀ wx, Below W.heap.size W wx → wx.ownsRow B t 3 (.slice (some ⟨W.heap.size, 0, none⟩) 0 0) 0 [] → W.heap.size < wx.heap.size → K a wx) : K a (W.alloc (.cells #[] t)) :=
  h _ (below_alloc _ _) (own_mono (made_own W t) hB) (by simp)
theorem newrow_Kd {K : Act → World → Prop} {a : Act} {W : World} {t : TypeId} (B : Nat) (hB : B ≤ W.heap.size)
    (h : ∀ wx, Below W.drew.heap.size W.drew wx → wx.ownsRow B t 3 (.slice (some ⟨W.heap.size, 0, none⟩) 0 0) 0 [] → W.heap.size < wx.heap.size → K a wx) : K a (W.alloc (.cells #[] t)).drew :=
  h (W.drew.alloc (.cells #[] t)) (below_alloc W.drew _) (own_mono (made_own W.drew t) hB) (by simp)
set_option maxRecDepth 100000 in
set_option maxHeartbeats 4000000 in
theorem rappend_any {s : Int} {A : Option Addr} {c : Nat} {xs : List En} {L : EL} {w : World} (h : Lg w A c xs L) (x : En) (hx : Sl w x.val x.op) :
    Calls Try.prog 20 #[.agg #[.int .i64 s, .slice A xs.length c], x.agg] w fun e w' => ∃ C q ys, e = .returned (.tuple #[.agg #[.int .i64 (appR s L x.data).1, .slice C (ys : List En).length q], .int .i64 (appR s L x.data).2.2]) ∧ Lg w' C q ys (appR s L x.data).2.1 ∧ Below w.heap.size w w' := by
  unfold En.agg
  obtain ⟨w1, hw1⟩ : ∃ w1, w.alloc (.cells #[.int .i64 s, .slice A xs.length c] 26) = w1 := ⟨_, rfl⟩
  obtain ⟨w2, hw2⟩ : ∃ w2, w1.alloc (.cells #[.int .i64 x.c, .int .i64 x.r, .slice x.A x.op.length x.cap] 32) = w2 := ⟨_, rfl⟩
  obtain ⟨w3, hw3⟩ : ∃ w3, w2.alloc (.cells #[.int .i64 0, .slice none 0 0] 26) = w3 := ⟨_, rfl⟩
  have b1 : Below w.heap.size w w1 := by rw [← hw1]; exact below_alloc _ _
  have b12 : Below w1.heap.size w1 w2 := by rw [← hw2]; exact below_alloc _ _
  have b23 : Below w2.heap.size w2 w3 := by rw [← hw3]; exact below_alloc _ _
  have b3 : Below w.heap.size w w3 := below_step (below_step b1 b12) b23
  have n1 : w1.heap.size = w.heap.size + 1 := by rw [← hw1]; exact size_run
  have n2 : w2.heap.size = w.heap.size + 2 := by rw [← hw2, size_run, n1]
  have U := hid (show Var2 w3 w.heap.size (.int .i64 s) (.slice A xs.length c) from by
    have := Var2.new w (.int .i64 s) (.slice A xs.length c) 26
    rw [hw1] at this
    exact (this.on b12).on b23)
  have X := hid (show Var3 w3 (w.heap.size + 1) (.int .i64 x.c) (.int .i64 x.r) (.slice x.A x.op.length x.cap) from by
    have := Var3.new w1 (.int .i64 x.c) (.int .i64 x.r) (.slice x.A x.op.length x.cap) 32
    rw [hw2, n1] at this
    exact this.on b23)
  have V := hid (show Var2 w3 (w.heap.size + 2) (.int .i64 0) (.slice none 0 0) from by
    have := Var2.new w2 (.int .i64 0) (.slice none 0 0) 26
    rw [hw3, n2] at this
    exact this)
  have hws : w.heap.size ≤ w.heap.size + 2 := by omega
  have KR := hid (rright_any (s := s) (h.below b3))
  cases hr : rightL s L with
  | false =>
    rw [show appR s L x.data = (0, [], 1) by rw [appR, hr]; rfl]
    rw [hr] at KR
    clear hr
    obtain ⟨u0, u1, _⟩ := U.out
    go_enter Try.func20, Try.ntmps20
    go_wp2_with fail
    refine KR.out.mono ?_
    rintro e w4 ⟨rfl, hb4⟩
    obtain ⟨v0, v1, f0, f1, hz⟩ := V.out.on hb4
    obtain ⟨z0, z1⟩ := set2_cells v0 v1 (.int .i64 0) (.slice none 0 0)
    go_wp2_with fail
    refine bodyPost_ret (v := .tuple #[.agg #[.int .i64 0, .slice none 0 0], .int .i64 1]) (by simp [results, Try.results20, go_sem, z0, z1]) rfl ?_
    exact ⟨none, 0, [], rfl, lg_nil _, ((below_step b3 hb4).setCell (p := ⟨w.heap.size + 2, 0, none⟩) hws _).setCell (p := ⟨w.heap.size + 2, 1, none⟩) hws _⟩
  | true =>
    rw [hr] at KR
    obtain ⟨r1, r2, r3, r4⟩ := rightL_iff.1 hr
    have hA : appR s L x.data = if L.length = 64 ∨ s + L.length = 1099511627776 ∨ 8192 < x.op.length then (0, [], 2) else (s, L ++ [x.data], 0) := by rw [appR, if_pos hr]; rfl
    have HL := hid h.len
    have e1 : IntKind.i64.wrap (s + (xs.length : Int)) = s + (xs.length : Int) := wrap_of _ (by have := HL.out; omega) (by have := HL.out; omega)
    by_cases hc : L.length = 64 ∨ s + L.length = 1099511627776 ∨ 8192 < x.op.length
    · rw [hA, if_pos hc]
      have hc2 : (64 : Int) ≤ xs.length ∨ ¬ (64 : Int) ≤ xs.length ∧ 1099511627776 ≤ s + (xs.length : Int) ∨ ¬ (64 : Int) ≤ xs.length ∧ ¬ 1099511627776 ≤ s + (xs.length : Int) ∧ (8192 : Int) < x.op.length := by have := HL.out; omega
      have HC := hid hc2
      clear hA hc hr r1 r2 r3 r4 hc2
      rcases HC.out with j1 | ⟨j1, j2⟩ | ⟨j1, j2, j3⟩
      all_goals
        obtain ⟨u0, u1, _⟩ := U.out
        go_enter Try.func20, Try.ntmps20
        go_wp2_with fail
        refine KR.out.mono ?_
        rintro e w4 ⟨rfl, hb4⟩
        obtain ⟨u0, u1, _⟩ := U.out.on hb4
        obtain ⟨x0, x1, x2, _⟩ := X.out.on hb4
        obtain ⟨v0, v1, f0, f1, hz⟩ := V.out.on hb4
        obtain ⟨z0, z1⟩ := set2_cells v0 v1 (.int .i64 0) (.slice none 0 0)
        go_wp2_with fail
        refine bodyPost_ret (v := .tuple #[.agg #[.int .i64 0, .slice none 0 0], .int .i64 2]) (by simp [results, Try.results20, go_sem, z0, z1]) rfl ?_
        exact ⟨none, 0, [], rfl, lg_nil _, ((below_step b3 hb4).setCell (p := ⟨w.heap.size + 2, 0, none⟩) hws _).setCell (p := ⟨w.heap.size + 2, 1, none⟩) hws _⟩
    · rw [hA, if_neg hc]
      have j1 : ¬ (64 : Int) ≤ xs.length := by have := HL.out; omega
      have j2 : ¬ 1099511627776 ≤ s + (xs.length : Int) := by have := HL.out; omega
      have j3 : ¬ (8192 : Int) < x.op.length := by omega
      have hn64 : xs.length ≤ 64 := by omega
      have HM := hid (show (xs ++ [x]).map En.data = L ++ [x.data] by rw [List.map_append, h.2.2]; rfl)
      clear hA hc hr r1 r2 r3 r4
      obtain ⟨u0, u1, _⟩ := U.out
      go_enter Try.func20, Try.ntmps20
      go_wp2_with fail
      refine KR.out.mono ?_
      rintro e w4 ⟨rfl, hb4⟩
      obtain ⟨u0, u1, _⟩ := U.out.on hb4
      obtain ⟨x0, x1, x2, _⟩ := X.out.on hb4
      have V4 := hid (V.out.on hb4)
      have b4 := below_step b3 hb4
      have hz4 := V4.out.2.2.2.2
      have u0q := fun W (hW : Below (w.heap.size + 2) w4 W) => (hW.cell (p := ⟨w.heap.size, 0, none⟩) (Nat.lt_add_of_pos_right (by decide))).trans u0
      have u1q := fun W (hW : Below (w.heap.size + 2) w4 W) => (hW.cell (p := ⟨w.heap.size, 1, none⟩) (Nat.lt_add_of_pos_right (by decide))).trans u1
      have x0q := fun W (hW : Below (w.heap.size + 2) w4 W) => (hW.cell (p := ⟨w.heap.size + 1, 0, none⟩) (Nat.lt_succ_self _)).trans x0
      have x1q := fun W (hW : Below (w.heap.size + 2) w4 W) => (hW.cell (p := ⟨w.heap.size + 1, 1, none⟩) (Nat.lt_succ_self _)).trans x1
      have x2q := fun W (hW : Below (w.heap.size + 2) w4 W) => (hW.cell (p := ⟨w.heap.size + 1, 2, none⟩) (Nat.lt_succ_self _)).trans x2
      have hE := hid (fun W (hW : Below w4.heap.size w4 W) => (h.below (below_step b4 hW)).1.1)
      have bcur := (Below.refl w4.heap.size w4).drew
      go_upto_region 6 with fail
      refine wp_region_noPanic ?_
      refine wp_region_held_drew (S := (fun W => Below (w.heap.size + 2) w4 W)) (by kernel_rfl) ?_ (fun hHeld => ?_)
      · exact (Below.refl _ _).drew
      refine wpAnyH_take (i := 0) (oi := ?oi1) (v := ?v1) ?hi1 (by kernel_rfl) (by kernel_rfl) (by kernel_rfl) ?hQ1 ?hy1 (by assumption) ?hrest1
      case hi1 => (simp only [List.getElem?_toArray, List.getElem?_cons_zero]; try rfl)
      case hQ1 => exact fun _ _ _ h => h
      case hy1 =>
        refine Or.inl ⟨by rfl, ?_⟩
        (intro wq hSw; (try dsimp only at hSw); go_simp; try with_reducible rfl)
      (try simp only [Act.put, List.setIfInBounds_toArray, List.set_cons_zero, List.set_cons_succ])
      refine wpAnyH_take (i := 1) (oi := ?oi2) (v := ?v2) ?hi2 (by kernel_rfl) (by kernel_rfl) (by kernel_rfl) ?hQ2 ?hy2 (by assumption) ?hrest2
      case hi2 => (simp only [List.getElem?_toArray, List.getElem?_cons_succ, List.getElem?_cons_zero]; try rfl)
      case hQ2 => exact fun _ _ _ h => h
      case hy2 =>
        refine Or.inl ⟨by rfl, ?_⟩
        (intro wq hSw; (try dsimp only at hSw); go_simp; try with_reducible rfl)
      (try simp only [Act.put, List.setIfInBounds_toArray, List.set_cons_zero, List.set_cons_succ])
      refine wpAnyH_take (i := 3) (oi := ?oi3) (v := ?v3) ?hi3 (by kernel_rfl) (by kernel_rfl) (by kernel_rfl) ?hQ3 ?hy3 (by assumption) ?hrest3
      case hi3 => (simp only [List.getElem?_toArray, List.getElem?_cons_succ, List.getElem?_cons_zero]; try rfl)
      case hQ3 => exact fun _ _ _ h => h
      case hy3 =>
        refine Or.inl ⟨by rfl, ?_⟩
        (intro wq hSw; (try dsimp only at hSw); go_simp; try with_reducible rfl)
      (try simp only [Act.put, List.setIfInBounds_toArray, List.set_cons_zero, List.set_cons_succ])
      refine wpAnyH_take (i := 4) (oi := ?oi4) (v := ?v4) ?hi4 (by kernel_rfl) (by kernel_rfl) (by kernel_rfl) ?hQ4 ?hy4 (by assumption) ?hrest4
      case hi4 => (simp only [List.getElem?_toArray, List.getElem?_cons_succ, List.getElem?_cons_zero]; try rfl)
      case hQ4 => exact fun _ _ _ h => h
      case hy4 =>
        refine Or.inl ⟨by rfl, ?_⟩
        (intro wq hSw; (try dsimp only at hSw); go_simp; try with_reducible rfl)
      (try simp only [Act.put, List.setIfInBounds_toArray, List.set_cons_zero, List.set_cons_succ])
      refine wpAnyH_take (i := 6) (oi := ?oi5) (v := ?v5) ?hi5 (by kernel_rfl) (by kernel_rfl) (by kernel_rfl) ?hQ5 ?hy5 (by assumption) ?hrest5
      case hi5 => (simp only [List.getElem?_toArray, List.getElem?_cons_succ, List.getElem?_cons_zero]; try rfl)
      case hQ5 => exact fun _ _ _ h => h
      case hy5 =>
        refine Or.inl ⟨by rfl, ?_⟩
        (intro wq hSw; (try dsimp only at hSw); go_simp; try with_reducible rfl)
      (try simp only [Act.put, List.setIfInBounds_toArray, List.set_cons_zero, List.set_cons_succ])
      refine wpAnyH_ready (rs := [2, 7]) (by kernel_rfl) (by simp) ?_
      refine AllReadyH.cons (o := ?oi6) ?hi6 (fun K hK => ?hstep6) ?hmore6
      case hi6 => (simp only [List.getElem?_toArray, List.getElem?_cons_succ, List.getElem?_cons_zero]; try rfl)
      case hstep6 =>
        go_simp
        (have hs0 := bcur.size; (first | refine newrow_Kd w4.heap.size hs0 ?_ | refine newrow_Kd w4.heap.size (Nat.le_refl _) ?_ | refine newrow_K w4.heap.size hs0 ?_); intro wx hbx hmo hrz; have bcur := below_step bcur hbx; (try have m0 := cell_on hbx m0); (try have m1 := cell_on hbx m1); (try have m2 := cell_on hbx m2))
        refine hK.out _ _ ?_ (fun hHeld => ?_)
        · exact hHeld.trans (hbx.mono (by have := hHeld.size; omega))
        clear hK K
        (try simp only [Act.put, List.setIfInBounds_toArray, List.set_cons_zero, List.set_cons_succ])
        refine wpAnyH_ready (rs := [5, 7]) (by kernel_rfl) (by simp) ?_
        refine AllReadyH.cons (o := ?oi7) ?hi7 (fun K hK => ?hstep7) ?hmore7
        case hi7 => (simp only [List.getElem?_toArray, List.getElem?_cons_succ, List.getElem?_cons_zero]; try rfl)
        case hstep7 =>
          (refine oper_app2 rfl (.tmp 34) (.tmp 36) 24 rfl w4.heap.size 32 Try.underlying24 infoE rfl (by decide) _ 0 [] rfl hmo A xs.length c (xs.flatMap enEl.cells) rfl (enEl.flat_len _) (hE.out _ bcur) (enEl.flat_one _) (by omega) (by omega) bcur.size ?_; intro v5 w5 hin5 hg5 hat5; have bcur := bcur.grown hg5 bcur.size (fun k hk => (own_lt hmo hk).1); (try have m0 := hg5.cell m0 (fun e => by have e := Option.some.inj e; dsimp only [Value.ownBlock] at e; omega)); (try have m1 := hg5.cell m1 (fun e => by have e := Option.some.inj e; dsimp only [Value.ownBlock] at e; omega)); (try have m2 := hg5.cell m2 (fun e => by have e := Option.some.inj e; dsimp only [Value.ownBlock] at e; omega)))
          refine hK.out _ _ ?_ (fun hHeld => ?_)
          · exact hHeld.grown hg5 (by have := hHeld.size; omega) (fun k hk => by have := (own_lt hmo hk).1; omega)
          clear hK K
          (try simp only [Act.put, List.setIfInBounds_toArray, List.set_cons_zero, List.set_cons_succ])
          refine wpAnyH_ready (rs := [7]) (by kernel_rfl) (by simp) ?_
          refine AllReadyH.cons (o := ?oi8) ?hi8 (fun K hK => ?hstep8) AllReadyH.nil
          case hi8 => (simp only [List.getElem?_toArray, List.getElem?_cons_succ, List.getElem?_cons_zero]; try rfl)
          go_simp
          ((first | refine newvar_Kd ?_ | refine newvar_K ?_); intro wx hbx nv nf nz; have m0 := nv 0 _ rfl; have m1 := nv 1 _ rfl; have m2 := nv 2 _ rfl; have bcur := below_step bcur hbx; (try have hmo := own_below hmo hbx); (try have hin5 := own_below hin5 hbx); clear nv nf)
          refine hK.out _ _ ?_ (fun hHeld => ?_)
          · exact hHeld.trans (hbx.mono (by have := hHeld.size; omega))
          clear hK K
          (try simp only [Act.put, List.setIfInBounds_toArray, List.set_cons_zero, List.set_cons_succ])
          refine wpAnyH_ready (rs := [8]) (by kernel_rfl) (by simp) ?_
          refine AllReadyH.cons (o := ?oi9) ?hi9 (fun K hK => ?hstep9) AllReadyH.nil
          case hi9 => (simp only [List.getElem?_toArray, List.getElem?_cons_succ, List.getElem?_cons_zero]; try rfl)
          (refine oper_app2 rfl (.tmp 37) (.tmp 39) 24 rfl w4.heap.size 32 Try.underlying24 infoE rfl (by decide) v5 (0 + xs.length) ([] ++ xs.flatMap enEl.cells) rfl hin5 (some ⟨_, 0, none⟩) 1 1 [.int .i64 x.c, .int .i64 x.r, .slice x.A x.op.length x.cap] rfl rfl (rd_three m0 m1 m2) (by intro u hu; simp at hu; rcases hu with rfl | rfl | rfl <;> rfl) (by omega) (by omega) bcur.size ?_; intro v8 w8 hin8 hg8 hat8; rw [Nat.zero_add, List.nil_append] at hin8; obtain ⟨C8, q8, hv8, hq8, _⟩ := own_shape hin8; subst hv8; have bcur := bcur.grown hg8 bcur.size (fun k hk => (own_lt hin5 hk).1); obtain ⟨v0, v1, f0, f1, hz⟩ := V4.out.on bcur)
          refine hK.out _ _ ?_ (fun hHeld => ?_)
          · exact hHeld.grown hg8 (by have := hHeld.size; omega) (fun k hk => by have := (own_lt hin5 hk).1; omega)
          clear hK K
          (try simp only [Act.put, List.setIfInBounds_toArray, List.set_cons_zero, List.set_cons_succ])
          refine wpAnyH_take (i := 9) (oi := ?oi10) (v := ?v10) ?hi10 (by kernel_rfl) (by kernel_rfl) (by kernel_rfl) ?hQ10 ?hy10 (by assumption) ?hrest10
          case hi10 => (simp only [List.getElem?_toArray, List.getElem?_cons_succ, List.getElem?_cons_zero]; try rfl)
          case hQ10 => exact fun _ _ _ h => h
          case hy10 =>
            refine Or.inl ⟨by rfl, ?_⟩
            (intro wq hSw; (try dsimp only at hSw); go_simp; try with_reducible rfl)
          (try simp only [Act.put, List.setIfInBounds_toArray, List.set_cons_zero, List.set_cons_succ])
          refine wpAnyH_ready (rs := [10]) (by kernel_rfl) (by simp) ?_
          refine AllReadyH.cons (o := ?oi11) ?hi11 (fun K hK => ?hstep11) AllReadyH.nil
          case hi11 => (simp only [List.getElem?_toArray, List.getElem?_cons_succ, List.getElem?_cons_zero]; try rfl)
          go_simp
          (skip)
          refine hK.out _ _ ?_ (fun hHeld => ?_)
          · exact (hHeld.setCell (p := ⟨w.heap.size + 2, 0, none⟩) (Nat.le_refl _) _).setCell (p := ⟨w.heap.size + 2, 1, none⟩) (Nat.le_refl _) _
          clear hK K
          (try simp only [Act.put, List.setIfInBounds_toArray, List.set_cons_zero, List.set_cons_succ])
          refine wpAnyH_take (i := 11) (oi := ?oi12) (v := ?v12) ?hi12 (by kernel_rfl) (by kernel_rfl) (by kernel_rfl) ?hQ12 ?hy12 (by assumption) ?hrest12
          case hi12 => (simp only [List.getElem?_toArray, List.getElem?_cons_succ, List.getElem?_cons_zero]; try rfl)
          case hQ12 => exact fun _ _ _ h => h
          case hy12 =>
            refine Or.inl ⟨by rfl, ?_⟩
            (intro wq hSw; (try dsimp only at hSw); go_simp; try with_reducible rfl)
          (try simp only [Act.put, List.setIfInBounds_toArray, List.set_cons_zero, List.set_cons_succ])
          refine wpAnyH_done (by kernel_rfl) ?_ _
          refine NoPanic.normal ?_
          (obtain ⟨z0, z1⟩ := set2_cells v0 v1 (.int .i64 s) (.slice C8 (xs.length + 1) q8); have bf := b4.trans (hHeld.mono hws); have bl := lg_own (us := xs ++ [x]) (by rw [List.flatMap_append]; exact hin8) (by simp) (fun a ha p hp => (List.mem_append.1 ha).elim (fun ha => h.1.2 a ha p hp) (fun ha => by rw [List.mem_singleton.1 ha] at hp; rw [List.mem_singleton.1 hp]; exact hx)) hz4 bf; rw [HM.out] at bl; go_wp2_with fail; refine bodyPost_ret (v := .tuple #[.agg #[.int .i64 s, .slice C8 (xs.length + 1) q8], .int .i64 0]) (by simp [results, Try.results20, go_sem, z0, z1]) rfl ?_; exact ⟨C8, q8, xs ++ [x], by rw [List.length_append]; rfl, bl, bf⟩)
        refine AllReadyH.cons (o := ?oi13) ?hi13 (fun K hK => ?hstep13) ?hmore13
        case hi13 => (simp only [List.getElem?_toArray, List.getElem?_cons_succ, List.getElem?_cons_zero]; try rfl)
        case hstep13 =>
          go_simp
          ((first | refine newvar_Kd ?_ | refine newvar_K ?_); intro wx hbx nv nf nz; have m0 := nv 0 _ rfl; have m1 := nv 1 _ rfl; have m2 := nv 2 _ rfl; have bcur := below_step bcur hbx; (try have hmo := own_below hmo hbx); (try have hin5 := own_below hin5 hbx); clear nv nf)
          refine hK.out _ _ ?_ (fun hHeld => ?_)
          · exact hHeld.trans (hbx.mono (by have := hHeld.size; omega))
          clear hK K
          (try simp only [Act.put, List.setIfInBounds_toArray, List.set_cons_zero, List.set_cons_succ])
          refine wpAnyH_ready (rs := [5]) (by kernel_rfl) (by simp) ?_
          refine AllReadyH.cons (o := ?oi14) ?hi14 (fun K hK => ?hstep14) AllReadyH.nil
          case hi14 => (simp only [List.getElem?_toArray, List.getElem?_cons_succ, List.getElem?_cons_zero]; try rfl)
          (refine oper_app2 rfl (.tmp 34) (.tmp 36) 24 rfl w4.heap.size 32 Try.underlying24 infoE rfl (by decide) _ 0 [] rfl hmo A xs.length c (xs.flatMap enEl.cells) rfl (enEl.flat_len _) (hE.out _ bcur) (enEl.flat_one _) (by omega) (by omega) bcur.size ?_; intro v5 w5 hin5 hg5 hat5; have bcur := bcur.grown hg5 bcur.size (fun k hk => (own_lt hmo hk).1); (try have m0 := hg5.cell m0 (fun e => by have e := Option.some.inj e; dsimp only [Value.ownBlock] at e; omega)); (try have m1 := hg5.cell m1 (fun e => by have e := Option.some.inj e; dsimp only [Value.ownBlock] at e; omega)); (try have m2 := hg5.cell m2 (fun e => by have e := Option.some.inj e; dsimp only [Value.ownBlock] at e; omega)))
          refine hK.out _ _ ?_ (fun hHeld => ?_)
          · exact hHeld.grown hg5 (by have := hHeld.size; omega) (fun k hk => by have := (own_lt hmo hk).1; omega)
          clear hK K
          (try simp only [Act.put, List.setIfInBounds_toArray, List.set_cons_zero, List.set_cons_succ])
          refine wpAnyH_ready (rs := [8]) (by kernel_rfl) (by simp) ?_
          refine AllReadyH.cons (o := ?oi15) ?hi15 (fun K hK => ?hstep15) AllReadyH.nil
          case hi15 => (simp only [List.getElem?_toArray, List.getElem?_cons_succ, List.getElem?_cons_zero]; try rfl)
          (refine oper_app2 rfl (.tmp 37) (.tmp 39) 24 rfl w4.heap.size 32 Try.underlying24 infoE rfl (by decide) v5 (0 + xs.length) ([] ++ xs.flatMap enEl.cells) rfl hin5 (some ⟨_, 0, none⟩) 1 1 [.int .i64 x.c, .int .i64 x.r, .slice x.A x.op.length x.cap] rfl rfl (rd_three m0 m1 m2) (by intro u hu; simp at hu; rcases hu with rfl | rfl | rfl <;> rfl) (by omega) (by omega) bcur.size ?_; intro v8 w8 hin8 hg8 hat8; rw [Nat.zero_add, List.nil_append] at hin8; obtain ⟨C8, q8, hv8, hq8, _⟩ := own_shape hin8; subst hv8; have bcur := bcur.grown hg8 bcur.size (fun k hk => (own_lt hin5 hk).1); obtain ⟨v0, v1, f0, f1, hz⟩ := V4.out.on bcur)
          refine hK.out _ _ ?_ (fun hHeld => ?_)
          · exact hHeld.grown hg8 (by have := hHeld.size; omega) (fun k hk => by have := (own_lt hin5 hk).1; omega)
          clear hK K
          (try simp only [Act.put, List.setIfInBounds_toArray, List.set_cons_zero, List.set_cons_succ])
          refine wpAnyH_take (i := 9) (oi := ?oi16) (v := ?v16) ?hi16 (by kernel_rfl) (by kernel_rfl) (by kernel_rfl) ?hQ16 ?hy16 (by assumption) ?hrest16
          case hi16 => (simp only [List.getElem?_toArray, List.getElem?_cons_succ, List.getElem?_cons_zero]; try rfl)
          case hQ16 => exact fun _ _ _ h => h
          case hy16 =>
            refine Or.inl ⟨by rfl, ?_⟩
            (intro wq hSw; (try dsimp only at hSw); go_simp; try with_reducible rfl)
          (try simp only [Act.put, List.setIfInBounds_toArray, List.set_cons_zero, List.set_cons_succ])
          refine wpAnyH_ready (rs := [10]) (by kernel_rfl) (by simp) ?_
          refine AllReadyH.cons (o := ?oi17) ?hi17 (fun K hK => ?hstep17) AllReadyH.nil
          case hi17 => (simp only [List.getElem?_toArray, List.getElem?_cons_succ, List.getElem?_cons_zero]; try rfl)
          go_simp
          (skip)
          refine hK.out _ _ ?_ (fun hHeld => ?_)
          · exact (hHeld.setCell (p := ⟨w.heap.size + 2, 0, none⟩) (Nat.le_refl _) _).setCell (p := ⟨w.heap.size + 2, 1, none⟩) (Nat.le_refl _) _
          clear hK K
          (try simp only [Act.put, List.setIfInBounds_toArray, List.set_cons_zero, List.set_cons_succ])
          refine wpAnyH_take (i := 11) (oi := ?oi18) (v := ?v18) ?hi18 (by kernel_rfl) (by kernel_rfl) (by kernel_rfl) ?hQ18 ?hy18 (by assumption) ?hrest18
          case hi18 => (simp only [List.getElem?_toArray, List.getElem?_cons_succ, List.getElem?_cons_zero]; try rfl)
          case hQ18 => exact fun _ _ _ h => h
          case hy18 =>
            refine Or.inl ⟨by rfl, ?_⟩
            (intro wq hSw; (try dsimp only at hSw); go_simp; try with_reducible rfl)
          (try simp only [Act.put, List.setIfInBounds_toArray, List.set_cons_zero, List.set_cons_succ])
          refine wpAnyH_done (by kernel_rfl) ?_ _
          refine NoPanic.normal ?_
          (obtain ⟨z0, z1⟩ := set2_cells v0 v1 (.int .i64 s) (.slice C8 (xs.length + 1) q8); have bf := b4.trans (hHeld.mono hws); have bl := lg_own (us := xs ++ [x]) (by rw [List.flatMap_append]; exact hin8) (by simp) (fun a ha p hp => (List.mem_append.1 ha).elim (fun ha => h.1.2 a ha p hp) (fun ha => by rw [List.mem_singleton.1 ha] at hp; rw [List.mem_singleton.1 hp]; exact hx)) hz4 bf; rw [HM.out] at bl; go_wp2_with fail; refine bodyPost_ret (v := .tuple #[.agg #[.int .i64 s, .slice C8 (xs.length + 1) q8], .int .i64 0]) (by simp [results, Try.results20, go_sem, z0, z1]) rfl ?_; exact ⟨C8, q8, xs ++ [x], by rw [List.length_append]; rfl, bl, bf⟩)
        exact AllReadyH.nil
      refine AllReadyH.cons (o := ?oi19) ?hi19 (fun K hK => ?hstep19) ?hmore19
      case hi19 => (simp only [List.getElem?_toArray, List.getElem?_cons_succ, List.getElem?_cons_zero]; try rfl)
      case hstep19 =>
        go_simp
        ((first | refine newvar_Kd ?_ | refine newvar_K ?_); intro wx hbx nv nf nz; have m0 := nv 0 _ rfl; have m1 := nv 1 _ rfl; have m2 := nv 2 _ rfl; have bcur := below_step bcur hbx; (try have hmo := own_below hmo hbx); (try have hin5 := own_below hin5 hbx); clear nv nf)
        refine hK.out _ _ ?_ (fun hHeld => ?_)
        · exact hHeld.trans (hbx.mono (by have := hHeld.size; omega))
        clear hK K
        (try simp only [Act.put, List.setIfInBounds_toArray, List.set_cons_zero, List.set_cons_succ])
        refine wpAnyH_ready (rs := [2]) (by kernel_rfl) (by simp) ?_
        refine AllReadyH.cons (o := ?oi20) ?hi20 (fun K hK => ?hstep20) AllReadyH.nil
        case hi20 => (simp only [List.getElem?_toArray, List.getElem?_cons_succ, List.getElem?_cons_zero]; try rfl)
        go_simp
        (have hs0 := bcur.size; (first | refine newrow_Kd w4.heap.size hs0 ?_ | refine newrow_Kd w4.heap.size (Nat.le_refl _) ?_ | refine newrow_K w4.heap.size hs0 ?_); intro wx hbx hmo hrz; have bcur := below_step bcur hbx; (try have m0 := cell_on hbx m0); (try have m1 := cell_on hbx m1); (try have m2 := cell_on hbx m2))
        refine hK.out _ _ ?_ (fun hHeld => ?_)
        · exact hHeld.trans (hbx.mono (by have := hHeld.size; omega))
        clear hK K
        (try simp only [Act.put, List.setIfInBounds_toArray, List.set_cons_zero, List.set_cons_succ])
        refine wpAnyH_ready (rs := [5]) (by kernel_rfl) (by simp) ?_
        refine AllReadyH.cons (o := ?oi21) ?hi21 (fun K hK => ?hstep21) AllReadyH.nil
        case hi21 => (simp only [List.getElem?_toArray, List.getElem?_cons_succ, List.getElem?_cons_zero]; try rfl)
        (refine oper_app2 rfl (.tmp 34) (.tmp 36) 24 rfl w4.heap.size 32 Try.underlying24 infoE rfl (by decide) _ 0 [] rfl hmo A xs.length c (xs.flatMap enEl.cells) rfl (enEl.flat_len _) (hE.out _ bcur) (enEl.flat_one _) (by omega) (by omega) bcur.size ?_; intro v5 w5 hin5 hg5 hat5; have bcur := bcur.grown hg5 bcur.size (fun k hk => (own_lt hmo hk).1); (try have m0 := hg5.cell m0 (fun e => by have e := Option.some.inj e; dsimp only [Value.ownBlock] at e; omega)); (try have m1 := hg5.cell m1 (fun e => by have e := Option.some.inj e; dsimp only [Value.ownBlock] at e; omega)); (try have m2 := hg5.cell m2 (fun e => by have e := Option.some.inj e; dsimp only [Value.ownBlock] at e; omega)))
        refine hK.out _ _ ?_ (fun hHeld => ?_)
        · exact hHeld.grown hg5 (by have := hHeld.size; omega) (fun k hk => by have := (own_lt hmo hk).1; omega)
        clear hK K
        (try simp only [Act.put, List.setIfInBounds_toArray, List.set_cons_zero, List.set_cons_succ])
        refine wpAnyH_ready (rs := [8]) (by kernel_rfl) (by simp) ?_
        refine AllReadyH.cons (o := ?oi22) ?hi22 (fun K hK => ?hstep22) AllReadyH.nil
        case hi22 => (simp only [List.getElem?_toArray, List.getElem?_cons_succ, List.getElem?_cons_zero]; try rfl)
        (refine oper_app2 rfl (.tmp 37) (.tmp 39) 24 rfl w4.heap.size 32 Try.underlying24 infoE rfl (by decide) v5 (0 + xs.length) ([] ++ xs.flatMap enEl.cells) rfl hin5 (some ⟨_, 0, none⟩) 1 1 [.int .i64 x.c, .int .i64 x.r, .slice x.A x.op.length x.cap] rfl rfl (rd_three m0 m1 m2) (by intro u hu; simp at hu; rcases hu with rfl | rfl | rfl <;> rfl) (by omega) (by omega) bcur.size ?_; intro v8 w8 hin8 hg8 hat8; rw [Nat.zero_add, List.nil_append] at hin8; obtain ⟨C8, q8, hv8, hq8, _⟩ := own_shape hin8; subst hv8; have bcur := bcur.grown hg8 bcur.size (fun k hk => (own_lt hin5 hk).1); obtain ⟨v0, v1, f0, f1, hz⟩ := V4.out.on bcur)
        refine hK.out _ _ ?_ (fun hHeld => ?_)
        · exact hHeld.grown hg8 (by have := hHeld.size; omega) (fun k hk => by have := (own_lt hin5 hk).1; omega)
        clear hK K
        (try simp only [Act.put, List.setIfInBounds_toArray, List.set_cons_zero, List.set_cons_succ])
        refine wpAnyH_take (i := 9) (oi := ?oi23) (v := ?v23) ?hi23 (by kernel_rfl) (by kernel_rfl) (by kernel_rfl) ?hQ23 ?hy23 (by assumption) ?hrest23
        case hi23 => (simp only [List.getElem?_toArray, List.getElem?_cons_succ, List.getElem?_cons_zero]; try rfl)
        case hQ23 => exact fun _ _ _ h => h
        case hy23 =>
          refine Or.inl ⟨by rfl, ?_⟩
          (intro wq hSw; (try dsimp only at hSw); go_simp; try with_reducible rfl)
        (try simp only [Act.put, List.setIfInBounds_toArray, List.set_cons_zero, List.set_cons_succ])
        refine wpAnyH_ready (rs := [10]) (by kernel_rfl) (by simp) ?_
        refine AllReadyH.cons (o := ?oi24) ?hi24 (fun K hK => ?hstep24) AllReadyH.nil
        case hi24 => (simp only [List.getElem?_toArray, List.getElem?_cons_succ, List.getElem?_cons_zero]; try rfl)
        go_simp
        (skip)
        refine hK.out _ _ ?_ (fun hHeld => ?_)
        · exact (hHeld.setCell (p := ⟨w.heap.size + 2, 0, none⟩) (Nat.le_refl _) _).setCell (p := ⟨w.heap.size + 2, 1, none⟩) (Nat.le_refl _) _
        clear hK K
        (try simp only [Act.put, List.setIfInBounds_toArray, List.set_cons_zero, List.set_cons_succ])
        refine wpAnyH_take (i := 11) (oi := ?oi25) (v := ?v25) ?hi25 (by kernel_rfl) (by kernel_rfl) (by kernel_rfl) ?hQ25 ?hy25 (by assumption) ?hrest25
        case hi25 => (simp only [List.getElem?_toArray, List.getElem?_cons_succ, List.getElem?_cons_zero]; try rfl)
        case hQ25 => exact fun _ _ _ h => h
        case hy25 =>
          refine Or.inl ⟨by rfl, ?_⟩
          (intro wq hSw; (try dsimp only at hSw); go_simp; try with_reducible rfl)
        (try simp only [Act.put, List.setIfInBounds_toArray, List.set_cons_zero, List.set_cons_succ])
        refine wpAnyH_done (by kernel_rfl) ?_ _
        refine NoPanic.normal ?_
        (obtain ⟨z0, z1⟩ := set2_cells v0 v1 (.int .i64 s) (.slice C8 (xs.length + 1) q8); have bf := b4.trans (hHeld.mono hws); have bl := lg_own (us := xs ++ [x]) (by rw [List.flatMap_append]; exact hin8) (by simp) (fun a ha p hp => (List.mem_append.1 ha).elim (fun ha => h.1.2 a ha p hp) (fun ha => by rw [List.mem_singleton.1 ha] at hp; rw [List.mem_singleton.1 hp]; exact hx)) hz4 bf; rw [HM.out] at bl; go_wp2_with fail; refine bodyPost_ret (v := .tuple #[.agg #[.int .i64 s, .slice C8 (xs.length + 1) q8], .int .i64 0]) (by simp [results, Try.results20, go_sem, z0, z1]) rfl ?_; exact ⟨C8, q8, xs ++ [x], by rw [List.length_append]; rfl, bl, bf⟩)
      exact AllReadyH.nil
end Go.Proofs.Ytbfjhclibbonjaa
