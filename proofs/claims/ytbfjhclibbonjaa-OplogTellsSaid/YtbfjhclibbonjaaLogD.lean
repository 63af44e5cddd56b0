import Derived.Test.YtbfjhclibbonjaaLogC
namespace Go.Proofs.Ytbfjhclibbonjaa
open Go.RowKit Go.Cov
set_option maxRecDepth 100000 in
set_option maxHeartbeats 1000000 in
theorem trim_any {s : Int} {A : Option Addr} {c : Nat} {xs : List En} {L : EL} {w : World} (h : Lg w A c xs L) (n : Int) :
    Calls Try.prog 22 #[.agg #[.int .i64 s, .slice A xs.length c], .int .i64 n] w fun e w' => ∃ C q ys, e = .returned (.tuple #[.agg #[.int .i64 (trimR s L n).1, .slice C (ys : List En).length q], .int .i64 (trimR s L n).2.2]) ∧ Lg w' C q ys (trimR s L n).2.1 ∧ Below w.heap.size w w' := by
  have hb1 := below_alloc w (.cells #[.int .i64 s, .slice A xs.length c] 26)
  have hb2 := below_step hb1 (below_alloc (w.alloc (.cells #[.int .i64 s, .slice A xs.length c] 26)) (.cells #[.int .i64 0, .slice none 0 0] 26))
  have K := hid (at_any (s := s) (h.below hb2) n)
  have V := hid (Var2.new (w.alloc (.cells #[.int .i64 s, .slice A xs.length c] 26)) (.int .i64 0) (.slice none 0 0) 26)
  have U0 := cell_up (Below.refl _ ((w.alloc (.cells #[.int .i64 s, .slice A xs.length c] 26)).alloc (.cells #[.int .i64 0, .slice none 0 0] 26))) (box_cell w #[.int .i64 s, .slice A xs.length c] 26 0 _ rfl)
  have U1 := cell_up (Below.refl _ ((w.alloc (.cells #[.int .i64 s, .slice A xs.length c] 26)).alloc (.cells #[.int .i64 0, .slice none 0 0] 26))) (box_cell w #[.int .i64 s, .slice A xs.length c] 26 1 _ rfl)
  have hws : w.heap.size ≤ w.heap.size + 1 := by omega
  rcases atL_cases s L n with ha | ⟨i, ha, hn, hi, hr⟩
  · rw [show trimR s L n = (0, [], 1) by rw [trimR, ha]]
    rw [ha] at K
    clear ha
    go_enter Try.func22, Try.ntmps22
    go_wp2_with fail
    refine K.out.mono ?_
    rintro e w2 ⟨rfl, hb3⟩
    obtain ⟨v0, v1, f0, f1, hz⟩ := V.out.on hb3
    rw [size_run] at v0 v1 f0 f1 hz
    obtain ⟨z0, z1⟩ := set2_cells v0 v1 (.int .i64 0) (.slice none 0 0)
    go_wp2_with fail
    refine bodyPost_ret (v := .tuple #[.agg #[.int .i64 0, .slice none 0 0], .int .i64 1]) (by simp [results, Try.results22, go_sem, z0, z1]) rfl ?_
    exact ⟨none, 0, [], rfl, lg_nil _, ((below_step hb2 hb3).setCell (p := ⟨w.heap.size + 1, 0, none⟩) hws _).setCell (p := ⟨w.heap.size + 1, 1, none⟩) hws _⟩
  · rw [show trimR s L n = (s, L.take i, 0) by rw [trimR, ha]]
    rw [ha] at K
    rw [show ((((some i).getD 0 : Nat)) : Int) = (i : Int) from rfl] at K
    have hxl := h.len
    have hix : i ≤ xs.length := by omega
    have hcap := h.2.1
    have sl1 := fun W => run_slice_max (P := Try.prog) Try.underlying24 infoE A xs.length c i .i64 .i64 (i : Int) (i : Int) rfl rfl (by omega) W
    have HD := hid (show (xs.take i).length = i by simp; omega)
    have HT := hid (fun W (hW : Below w.heap.size w W) => (show Lg W A i (xs.take i) (L.take i) from ⟨(h.below hW).1.take i, by rw [HD.out]; exact Nat.le_refl _, by rw [List.map_take, h.2.2]⟩))
    clear ha hr hn hxl hi h
    go_enter Try.func22, Try.ntmps22
    go_wp2_with fail
    refine K.out.mono ?_
    rintro e w2 ⟨rfl, hb3⟩
    obtain ⟨v0, v1, f0, f1, hz⟩ := V.out.on hb3
    rw [size_run] at v0 v1 f0 f1 hz
    have b2 := below_step hb2 hb3
    have U0q := fun W (hW : Below (w.heap.size + 1) w2 W) => (hW.cell (p := ⟨w.heap.size, 0, none⟩) (Nat.lt_succ_self _)).trans (cell_on hb3 U0)
    have U1q := fun W (hW : Below (w.heap.size + 1) w2 W) => (hW.cell (p := ⟨w.heap.size, 1, none⟩) (Nat.lt_succ_self _)).trans (cell_on hb3 U1)
    obtain ⟨z0, z1⟩ := set2_cells v0 v1 (.int .i64 s) (.slice A i i)
    go_upto_region 4 with fail
    refine wp_region_noPanic ?_
    refine wp_region_held_drew (S := (fun W => Below (w.heap.size + 1) w2 W)) (by kernel_rfl) ?_ (fun hHeld => ?_)
    · exact (Below.refl _ _).drew
    refine wpAnyH_take (i := 0) (oi := ?oi1) (v := ?v1) ?hi1 (by kernel_rfl) (by kernel_rfl) (by kernel_rfl) ?hQ1 ?hy1 (by assumption) ?hrest1
    case hi1 => (simp only [List.getElem?_toArray, List.getElem?_cons_zero]; try rfl)
    case hQ1 => exact fun _ _ _ h => h
    case hy1 =>
      refine Or.inl ⟨by rfl, ?_⟩
      (intro wq hSw; (try dsimp only at hSw); go_simp; try with_reducible rfl)
    (try simp only [Act.put, List.setIfInBounds_toArray, List.set_cons_zero, List.set_cons_succ])
    refine wpAnyH_take (i := 1) (oi := ?oi2) (v := ?v2) ?hi2 (by kernel_rfl) (by kernel_rfl) (by kernel_rfl) ?hQ2 ?hy2 (by assumption) ?hrest2
    case hi2 => (simp only [List.getElem?_toArray, List.getElem?_cons_succ, List.getElem?_cons_zero]; try rfl)
    case hQ2 => exact fun _ _ _ h => h
    case hy2 =>
      refine Or.inl ⟨by rfl, ?_⟩
      (intro wq hSw; (try dsimp only at hSw); go_simp; try with_reducible rfl)
    (try simp only [Act.put, List.setIfInBounds_toArray, List.set_cons_zero, List.set_cons_succ])
    refine wpAnyH_take (i := 2) (oi := ?oi3) (v := ?v3) ?hi3 (by kernel_rfl) (by kernel_rfl) (by kernel_rfl) ?hQ3 ?hy3 (by assumption) ?hrest3
    case hi3 => (simp only [List.getElem?_toArray, List.getElem?_cons_succ, List.getElem?_cons_zero]; try rfl)
    case hQ3 => exact fun _ _ _ h => h
    case hy3 =>
      refine Or.inl ⟨by rfl, ?_⟩
      (intro wq hSw; (try dsimp only at hSw); go_simp; try with_reducible rfl)
    (try simp only [Act.put, List.setIfInBounds_toArray, List.set_cons_zero, List.set_cons_succ])
    refine wpAnyH_take (i := 3) (oi := ?oi4) (v := ?v4) ?hi4 (by kernel_rfl) (by kernel_rfl) (by kernel_rfl) ?hQ4 ?hy4 (by assumption) ?hrest4
    case hi4 => (simp only [List.getElem?_toArray, List.getElem?_cons_succ, List.getElem?_cons_zero]; try rfl)
    case hQ4 => exact fun _ _ _ h => h
    case hy4 =>
      refine Or.inl ⟨by rfl, ?_⟩
      (intro wq hSw; (try dsimp only at hSw); go_simp; try with_reducible rfl)
    (try simp only [Act.put, List.setIfInBounds_toArray, List.set_cons_zero, List.set_cons_succ])
    refine wpAnyH_take (i := 4) (oi := ?oi5) (v := ?v5) ?hi5 (by kernel_rfl) (by kernel_rfl) (by kernel_rfl) ?hQ5 ?hy5 (by assumption) ?hrest5
    case hi5 => (simp only [List.getElem?_toArray, List.getElem?_cons_succ, List.getElem?_cons_zero]; try rfl)
    case hQ5 => exact fun _ _ _ h => h
    case hy5 =>
      refine Or.inl ⟨by rfl, ?_⟩
      (intro wq hSw; (try dsimp only at hSw); go_simp; try with_reducible rfl)
    (try simp only [Act.put, List.setIfInBounds_toArray, List.set_cons_zero, List.set_cons_succ])
    refine wpAnyH_take (i := 5) (oi := ?oi6) (v := ?v6) ?hi6 (by kernel_rfl) (by kernel_rfl) (by kernel_rfl) ?hQ6 ?hy6 (by assumption) ?hrest6
    case hi6 => (simp only [List.getElem?_toArray, List.getElem?_cons_succ, List.getElem?_cons_zero]; try rfl)
    case hQ6 => exact fun _ _ _ h => h
    case hy6 =>
      refine Or.inl ⟨by rfl, ?_⟩
      (intro wq hSw; (try dsimp only at hSw); go_simp; try with_reducible rfl)
    (try simp only [Act.put, List.setIfInBounds_toArray, List.set_cons_zero, List.set_cons_succ])
    refine wpAnyH_take (i := 6) (oi := ?oi7) (v := ?v7) ?hi7 (by kernel_rfl) (by kernel_rfl) (by kernel_rfl) ?hQ7 ?hy7 (by assumption) ?hrest7
    case hi7 => (simp only [List.getElem?_toArray, List.getElem?_cons_succ, List.getElem?_cons_zero]; try rfl)
    case hQ7 => exact fun _ _ _ h => h
    case hy7 =>
      refine Or.inl ⟨by rfl, ?_⟩
      (intro wq hSw; (try dsimp only at hSw); go_simp; try with_reducible rfl)
    (try simp only [Act.put, List.setIfInBounds_toArray, List.set_cons_zero, List.set_cons_succ])
    refine wpAnyH_take (i := 7) (oi := ?oi8) (v := ?v8) ?hi8 (by kernel_rfl) (by kernel_rfl) (by kernel_rfl) ?hQ8 ?hy8 (by assumption) ?hrest8
    case hi8 => (simp only [List.getElem?_toArray, List.getElem?_cons_succ, List.getElem?_cons_zero]; try rfl)
    case hQ8 => exact fun _ _ _ h => h
    case hy8 =>
      refine Or.inl ⟨by rfl, ?_⟩
      (intro wq hSw; (try dsimp only at hSw); go_simp; try with_reducible rfl)
    (try simp only [Act.put, List.setIfInBounds_toArray, List.set_cons_zero, List.set_cons_succ])
    refine wpAnyH_ready (rs := [8]) (by kernel_rfl) (by simp) ?_
    refine AllReadyH.cons (o := ?oi9) ?hi9 (fun K hK => ?hstep9) AllReadyH.nil
    case hi9 => (simp only [List.getElem?_toArray, List.getElem?_cons_succ, List.getElem?_cons_zero]; try rfl)
    go_simp
    (skip)
    refine hK.out _ _ ?_ (fun hHeld => ?_)
    · exact (hHeld.setCell (p := ⟨w.heap.size + 1, 0, none⟩) (Nat.le_refl _) _).setCell (p := ⟨w.heap.size + 1, 1, none⟩) (Nat.le_refl _) _
    clear hK K
    (try simp only [Act.put, List.setIfInBounds_toArray, List.set_cons_zero, List.set_cons_succ])
    refine wpAnyH_take (i := 9) (oi := ?oi10) (v := ?v10) ?hi10 (by kernel_rfl) (by kernel_rfl) (by kernel_rfl) ?hQ10 ?hy10 (by assumption) ?hrest10
    case hi10 => (simp only [List.getElem?_toArray, List.getElem?_cons_succ, List.getElem?_cons_zero]; try rfl)
    case hQ10 => exact fun _ _ _ h => h
    case hy10 =>
      refine Or.inl ⟨by rfl, ?_⟩
      (intro wq hSw; (try dsimp only at hSw); go_simp; try with_reducible rfl)
    (try simp only [Act.put, List.setIfInBounds_toArray, List.set_cons_zero, List.set_cons_succ])
    refine wpAnyH_done (by kernel_rfl) ?_ _
    refine NoPanic.normal ?_
    go_wp2_with fail
    refine bodyPost_ret (v := .tuple #[.agg #[.int .i64 s, .slice A i i], .int .i64 0]) (by simp [results, Try.results22, go_sem, z0, z1]) rfl ?_
    have bf := b2.trans (hHeld.mono hws)
    exact ⟨A, i, xs.take i, by rw [HD.out], HT.out _ bf, bf⟩
theorem var2_set {w : World} {b : Nat} {x y : Value} (h : Var2 w b x y) (x' y' : Value) : Var2 ((w.setCell ⟨b, 0, none⟩ x').setCell ⟨b, 1, none⟩ y') b x' y' := by
  obtain ⟨h0, h1, f0, f1, hz⟩ := h
  obtain ⟨z0, z1⟩ := set2_cells h0 h1 x' y'
  exact ⟨z0, z1, by rw [World.frozen?_setCell, World.frozen?_setCell]; exact f0, by rw [World.frozen?_setCell, World.frozen?_setCell]; exact f1, by simpa using hz⟩
theorem sl_keepU {w w' : World} {p : Value} {l : List UInt8} (h : Sl w p l) (hk : ∀ q (u : UInt8), w.cell? q = some (byt u) → w'.cell? q = some (byt u)) : Sl w' p l := by
  obtain ⟨A, c, rfl, h1, h2, h3⟩ := h
  refine ⟨A, c, rfl, h1, h2, fun j u hj => ?_⟩
  obtain ⟨ad, hA, hc⟩ := h3 j u hj
  rw [List.getElem?_map] at hj
  obtain ⟨b, _, rfl⟩ := Option.map_eq_some_iff.1 hj
  exact ⟨ad, hA, hk _ _ hc⟩
/-- a list lies on when another variable is written -/
theorem Lg.set {w : World} {b : Nat} {x : Int} {F : Option Addr} {n k : Nat} {A : Option Addr} {c : Nat} {xs : List En} {L : EL} (h : Lg w A c xs L) (hv : Var2 w b (.int .i64 x) (.slice F n k)) (hne : ∀ ad, A = some ad → ad.block ≠ b) (x' y' : Value) : Lg ((w.setCell ⟨b, 0, none⟩ x').setCell ⟨b, 1, none⟩ y') A c xs L := by
  refine ⟨⟨rd_set (rd_set h.1.1 hne) hne, fun a ha p hp => sl_keepU (h.1.2 a ha p hp) fun q u hq => ?_⟩, h.2⟩
  have n0 : (⟨b, 0, none⟩ : Addr) ≠ q := fun e => by rw [← e, hv.1] at hq; cases hq
  have n1 : (⟨b, 1, none⟩ : Addr) ≠ q := fun e => by rw [← e, hv.2.1] at hq; cases hq
  rw [World.cell?_setCell_other _ _ _ _ n1, World.cell?_setCell_other _ _ _ _ n0]
  exact hq
theorem lg_own {w w4 : World} {base b n q : Nat} {t : TypeId} {C : Option Addr} {us : List En} {y0 y1 : Value} (own : w4.ownsRow base t 3 (.slice C n q) n (us.flatMap enEl.cells)) (hn : us.length = n) (hold : ∀ a ∈ us, ∀ p ∈ enEl.cons a, Sl w p.1 p.2) (hb : b < base)
    (bf : Below w.heap.size w ((w4.setCell ⟨b, 0, none⟩ y0).setCell ⟨b, 1, none⟩ y1)) : Lg ((w4.setCell ⟨b, 0, none⟩ y0).setCell ⟨b, 1, none⟩ y1) C q us (us.map En.data) := by
  obtain ⟨A', c', he, hc, _⟩ := own_shape own
  injection he with e1 e2 e3
  subst e1 e3
  have hne : ∀ ad, C = some ad → ad.block ≠ b := fun ad hA => by
    have := (own_lt own (k := ad.block) (by rw [hA]; rfl)).1
    omega
  exact ⟨⟨rd_set (rd_set (own_rd own) hne) hne, fun a ha p hp => (hold a ha p hp).keep (fun _ _ hq => cell_on bf hq)⟩, by omega, rfl⟩
set_option maxRecDepth 100000 in
set_option maxHeartbeats 2000000 in
theorem append_any {s : Int} {A : Option Addr} {c : Nat} {xs : List En} {L : EL} {w : World} (h : Lg w A c xs L) (x : En) (hx : Sl w x.val x.op) :
    Calls Try.prog 8 #[.agg #[.int .i64 s, .slice A xs.length c], x.agg] w fun e w' => ∃ C q ys, e = .returned (.tuple #[.agg #[.int .i64 (appR s L x.data).1, .slice C (ys : List En).length q], .int .i64 (appR s L x.data).2.2]) ∧ Lg w' C q ys (appR s L x.data).2.1 ∧ (∀ ad, C = some ad → w.heap.size ≤ ad.block) ∧ Below w.heap.size w w' := by
  unfold En.agg
  obtain ⟨w1, hw1⟩ : ∃ w1, w.alloc (.cells #[.int .i64 s, .slice A xs.length c] 26) = w1 := ⟨_, rfl⟩
  obtain ⟨w2, hw2⟩ : ∃ w2, w1.alloc (.cells #[.int .i64 x.c, .int .i64 x.r, .slice x.A x.op.length x.cap] 32) = w2 := ⟨_, rfl⟩
  obtain ⟨w3, hw3⟩ : ∃ w3, w2.alloc (.cells #[.int .i64 0, .slice none 0 0] 26) = w3 := ⟨_, rfl⟩
  have b1 : Below w.heap.size w w1 := by rw [← hw1]; exact below_alloc _ _
  have b12 : Below w1.heap.size w1 w2 := by rw [← hw2]; exact below_alloc _ _
  have b23 : Below w2.heap.size w2 w3 := by rw [← hw3]; exact below_alloc _ _
  have b3 : Below w.heap.size w w3 := below_step (below_step b1 b12) b23
  have n1 : w1.heap.size = w.heap.size + 1 := by rw [← hw1]; exact size_run
  have n2 : w2.heap.size = w.heap.size + 2 := by rw [← hw2, size_run, n1]
  have U := hid (show Var2 w3 w.heap.size (.int .i64 s) (.slice A xs.length c) from by
    have := Var2.new w (.int .i64 s) (.slice A xs.length c) 26
    rw [hw1] at this
    exact (this.on b12).on b23)
  have X := hid (show Var3 w3 (w.heap.size + 1) (.int .i64 x.c) (.int .i64 x.r) (.slice x.A x.op.length x.cap) from by
    have := Var3.new w1 (.int .i64 x.c) (.int .i64 x.r) (.slice x.A x.op.length x.cap) 32
    rw [hw2, n1] at this
    exact this.on b23)
  have V := hid (show Var2 w3 (w.heap.size + 2) (.int .i64 0) (.slice none 0 0) from by
    have := Var2.new w2 (.int .i64 0) (.slice none 0 0) 26
    rw [hw3, n2] at this
    exact this)
  have hws : w.heap.size ≤ w.heap.size + 2 := by omega
  have KR := hid (logright_any (s := s) (h.below b3))
  have KE := hid (fun W (hW : Below w.heap.size w W) => end_any (s := s) (h.below hW))
  cases hr : rightL s L with
  | false =>
    rw [show appR s L x.data = (0, [], 1) by rw [appR, hr]; rfl]
    rw [hr] at KR
    clear hr
    obtain ⟨u0, u1, _⟩ := U.out
    go_enter Try.func8, Try.ntmps8
    go_wp2_with fail
    refine KR.out.mono ?_
    rintro e w4 ⟨rfl, hb4⟩
    obtain ⟨v0, v1, f0, f1, hz⟩ := V.out.on hb4
    obtain ⟨z0, z1⟩ := set2_cells v0 v1 (.int .i64 0) (.slice none 0 0)
    go_wp2_with fail
    refine bodyPost_ret (v := .tuple #[.agg #[.int .i64 0, .slice none 0 0], .int .i64 1]) (by simp [results, Try.results8, go_sem, z0, z1]) rfl ?_
    exact ⟨none, 0, [], rfl, lg_nil _, (fun ad hA => by cases hA), ((below_step b3 hb4).setCell (p := ⟨w.heap.size + 2, 0, none⟩) hws _).setCell (p := ⟨w.heap.size + 2, 1, none⟩) hws _⟩
  | true =>
    rw [hr] at KR
    obtain ⟨r1, r2, r3, r4⟩ := rightL_iff.1 hr
    have he : endL s L = s + L.length := by rw [endL, if_pos hr]
    rw [he] at KE
    have hA : appR s L x.data = if L.length = 64 ∨ s + L.length = 1099511627776 ∨ 8192 < x.op.length then (0, [], 2) else (s, L ++ [x.data], 0) := by rw [appR, if_pos hr]; rfl
    have HL := hid h.len
    have j4 : ¬ (1099511627776 : Int) < s + L.length := by omega
    rw [← HL.out] at KE j4
    by_cases c1 : L.length = 64
    · rw [hA, if_pos (.inl c1)]
      have q1 : ((xs.length : Int) == 64) = true := by simp; have := HL.out; omega
      clear hA c1 he hr r1 r2 r3 r4 j4
      obtain ⟨u0, u1, _⟩ := U.out
      go_enter Try.func8, Try.ntmps8
      go_wp2_with fail
      refine KR.out.mono ?_
      rintro e w4 ⟨rfl, hb4⟩
      obtain ⟨v0, v1, f0, f1, hz⟩ := V.out.on hb4
      obtain ⟨z0, z1⟩ := set2_cells v0 v1 (.int .i64 0) (.slice none 0 0)
      go_wp2_with fail
      refine bodyPost_ret (v := .tuple #[.agg #[.int .i64 0, .slice none 0 0], .int .i64 2]) (by simp [results, Try.results8, go_sem, z0, z1]) rfl ?_
      exact ⟨none, 0, [], rfl, lg_nil _, (fun ad hA => by cases hA), ((below_step b3 hb4).setCell (p := ⟨w.heap.size + 2, 0, none⟩) hws _).setCell (p := ⟨w.heap.size + 2, 1, none⟩) hws _⟩
    · have q1 : ((xs.length : Int) == 64) = false := by simp; have := HL.out; omega
      by_cases c2 : s + L.length = 1099511627776
      · rw [hA, if_pos (.inr (.inl c2))]
        have q2 : (s + (xs.length : Int) == 1099511627776) = true := by simp; have := HL.out; omega
        clear hA c1 c2 he hr r1 r2 r3 r4 j4
        obtain ⟨u0, u1, _⟩ := U.out
        go_enter Try.func8, Try.ntmps8
        go_wp2_with fail
        refine KR.out.mono ?_
        rintro e w4 ⟨rfl, hb4⟩
        obtain ⟨u0, u1, _⟩ := U.out.on hb4
        go_wp2_with fail
        refine (KE.out _ (below_step b3 hb4)).mono ?_
        rintro e w5 ⟨rfl, hb5⟩
        obtain ⟨v0, v1, f0, f1, hz⟩ := (V.out.on hb4).on hb5
        obtain ⟨z0, z1⟩ := set2_cells v0 v1 (.int .i64 0) (.slice none 0 0)
        go_wp2_with fail
        refine bodyPost_ret (v := .tuple #[.agg #[.int .i64 0, .slice none 0 0], .int .i64 2]) (by simp [results, Try.results8, go_sem, z0, z1]) rfl ?_
        exact ⟨none, 0, [], rfl, lg_nil _, (fun ad hA => by cases hA), ((below_step (below_step b3 hb4) hb5).setCell (p := ⟨w.heap.size + 2, 0, none⟩) hws _).setCell (p := ⟨w.heap.size + 2, 1, none⟩) hws _⟩
      · have q2 : (s + (xs.length : Int) == 1099511627776) = false := by simp; have := HL.out; omega
        by_cases c3 : 8192 < x.op.length
        · rw [hA, if_pos (.inr (.inr c3))]
          have q3 : (8192 : Int) < x.op.length := by omega
          clear hA c1 c2 c3 he hr r1 r2 r3 r4 j4
          obtain ⟨u0, u1, _⟩ := U.out
          go_enter Try.func8, Try.ntmps8
          go_wp2_with fail
          refine KR.out.mono ?_
          rintro e w4 ⟨rfl, hb4⟩
          obtain ⟨u0, u1, _⟩ := U.out.on hb4
          go_wp2_with fail
          refine (KE.out _ (below_step b3 hb4)).mono ?_
          rintro e w5 ⟨rfl, hb5⟩
          obtain ⟨x0, x1, x2, _⟩ := (X.out.on hb4).on hb5
          obtain ⟨v0, v1, f0, f1, hz⟩ := (V.out.on hb4).on hb5
          obtain ⟨z0, z1⟩ := set2_cells v0 v1 (.int .i64 0) (.slice none 0 0)
          go_wp2_with fail
          refine bodyPost_ret (v := .tuple #[.agg #[.int .i64 0, .slice none 0 0], .int .i64 2]) (by simp [results, Try.results8, go_sem, z0, z1]) rfl ?_
          exact ⟨none, 0, [], rfl, lg_nil _, (fun ad hA => by cases hA), ((below_step (below_step b3 hb4) hb5).setCell (p := ⟨w.heap.size + 2, 0, none⟩) hws _).setCell (p := ⟨w.heap.size + 2, 1, none⟩) hws _⟩
        · rw [hA, if_neg (fun hh => hh.elim c1 (fun hh => hh.elim c2 c3))]
          have q3 : ¬ (8192 : Int) < x.op.length := by omega
          have hcap := h.2.1
          have hn64 : xs.length ≤ 64 := by have := HL.out; omega
          have sl1 := fun W => run_slice_max (P := Try.prog) Try.underlying24 infoE A xs.length c xs.length .i64 .i64 (xs.length : Int) (xs.length : Int) rfl rfl (by omega) W
          have HM := hid (show (xs ++ [x]).map En.data = L ++ [x.data] by rw [List.map_append, h.2.2]; rfl)
          have hA0 : A = none → xs.length = 0 := fun hA => by
            cases xs with
            | nil => rfl
            | cons y l => obtain ⟨ad, hA', _⟩ := h.1.at' 0 (by simp); rw [hA] at hA'; cases hA'
          have HA0 := hid hA0
          clear hA c1 c2 c3 he hr r1 r2 r3 r4 hA0
          obtain ⟨u0, u1, _⟩ := U.out
          go_enter Try.func8, Try.ntmps8
          go_wp2_with fail
          refine KR.out.mono ?_
          rintro e w4 ⟨rfl, hb4⟩
          obtain ⟨u0, u1, _⟩ := U.out.on hb4
          go_wp2_with fail
          refine (KE.out _ (below_step b3 hb4)).mono ?_
          rintro e w5 ⟨rfl, hb5⟩
          obtain ⟨u0, u1, _⟩ := (U.out.on hb4).on hb5
          obtain ⟨x0, x1, x2, _⟩ := (X.out.on hb4).on hb5
          go_wp2_with fail
          refine (KE.out _ (below_step (below_step b3 hb4) hb5)).mono ?_
          rintro e w6 ⟨rfl, hb6⟩
          obtain ⟨u0, u1, _⟩ := ((U.out.on hb4).on hb5).on hb6
          obtain ⟨x0, x1, x2, _⟩ := ((X.out.on hb4).on hb5).on hb6
          have V6 := hid (((V.out.on hb4).on hb5).on hb6)
          have b6 := below_step (below_step (below_step b3 hb4) hb5) hb6
          have u0q := fun W (hW : Below (w.heap.size + 2) w6 W) => (hW.cell (p := ⟨w.heap.size, 0, none⟩) (Nat.lt_add_of_pos_right (by decide))).trans u0
          have u1q := fun W (hW : Below (w.heap.size + 2) w6 W) => (hW.cell (p := ⟨w.heap.size, 1, none⟩) (Nat.lt_add_of_pos_right (by decide))).trans u1
          have x0q := fun W (hW : Below (w.heap.size + 2) w6 W) => (hW.cell (p := ⟨w.heap.size + 1, 0, none⟩) (Nat.lt_succ_self _)).trans x0
          have x1q := fun W (hW : Below (w.heap.size + 2) w6 W) => (hW.cell (p := ⟨w.heap.size + 1, 1, none⟩) (Nat.lt_succ_self _)).trans x1
          have x2q := fun W (hW : Below (w.heap.size + 2) w6 W) => (hW.cell (p := ⟨w.heap.size + 1, 2, none⟩) (Nat.lt_succ_self _)).trans x2
          have hz6 := V6.out.2.2.2.2
          clear u0 u1 x0 x1 x2
          go_upto_region 9 with fail
          refine wp_region_noPanic ?_
          refine wp_region_held_drew (S := (fun W => Below (w.heap.size + 2) w6 W)) (by kernel_rfl) ?_ (fun hHeld => ?_)
          · exact (Below.refl _ _).drew
          refine wpAnyH_take (i := 0) (oi := ?oi11) (v := ?v11) ?hi11 (by kernel_rfl) (by kernel_rfl) (by kernel_rfl) ?hQ11 ?hy11 (by assumption) ?hrest11
          case hi11 => (simp only [List.getElem?_toArray, List.getElem?_cons_zero]; try rfl)
          case hQ11 => exact fun _ _ _ h => h
          case hy11 =>
            refine Or.inl ⟨by rfl, ?_⟩
            (intro wq hSw; (try dsimp only at hSw); go_simp; try with_reducible rfl)
          (try simp only [Act.put, List.setIfInBounds_toArray, List.set_cons_zero, List.set_cons_succ])
          refine wpAnyH_take (i := 1) (oi := ?oi12) (v := ?v12) ?hi12 (by kernel_rfl) (by kernel_rfl) (by kernel_rfl) ?hQ12 ?hy12 (by assumption) ?hrest12
          case hi12 => (simp only [List.getElem?_toArray, List.getElem?_cons_succ, List.getElem?_cons_zero]; try rfl)
          case hQ12 => exact fun _ _ _ h => h
          case hy12 =>
            refine Or.inl ⟨by rfl, ?_⟩
            (intro wq hSw; (try dsimp only at hSw); go_simp; try with_reducible rfl)
          (try simp only [Act.put, List.setIfInBounds_toArray, List.set_cons_zero, List.set_cons_succ])
          refine wpAnyH_take (i := 2) (oi := ?oi13) (v := ?v13) ?hi13 (by kernel_rfl) (by kernel_rfl) (by kernel_rfl) ?hQ13 ?hy13 (by assumption) ?hrest13
          case hi13 => (simp only [List.getElem?_toArray, List.getElem?_cons_succ, List.getElem?_cons_zero]; try rfl)
          case hQ13 => exact fun _ _ _ h => h
          case hy13 =>
            refine Or.inl ⟨by rfl, ?_⟩
            (intro wq hSw; (try dsimp only at hSw); go_simp; try with_reducible rfl)
          (try simp only [Act.put, List.setIfInBounds_toArray, List.set_cons_zero, List.set_cons_succ])
          refine wpAnyH_take (i := 3) (oi := ?oi14) (v := ?v14) ?hi14 (by kernel_rfl) (by kernel_rfl) (by kernel_rfl) ?hQ14 ?hy14 (by assumption) ?hrest14
          case hi14 => (simp only [List.getElem?_toArray, List.getElem?_cons_succ, List.getElem?_cons_zero]; try rfl)
          case hQ14 => exact fun _ _ _ h => h
          case hy14 =>
            refine Or.inl ⟨by rfl, ?_⟩
            (intro wq hSw; (try dsimp only at hSw); go_simp; try with_reducible rfl)
          (try simp only [Act.put, List.setIfInBounds_toArray, List.set_cons_zero, List.set_cons_succ])
          refine wpAnyH_take (i := 4) (oi := ?oi15) (v := ?v15) ?hi15 (by kernel_rfl) (by kernel_rfl) (by kernel_rfl) ?hQ15 ?hy15 (by assumption) ?hrest15
          case hi15 => (simp only [List.getElem?_toArray, List.getElem?_cons_succ, List.getElem?_cons_zero]; try rfl)
          case hQ15 => exact fun _ _ _ h => h
          case hy15 =>
            refine Or.inl ⟨by rfl, ?_⟩
            (intro wq hSw; (try dsimp only at hSw); go_simp; try with_reducible rfl)
          (try simp only [Act.put, List.setIfInBounds_toArray, List.set_cons_zero, List.set_cons_succ])
          refine wpAnyH_take (i := 5) (oi := ?oi16) (v := ?v16) ?hi16 (by kernel_rfl) (by kernel_rfl) (by kernel_rfl) ?hQ16 ?hy16 (by assumption) ?hrest16
          case hi16 => (simp only [List.getElem?_toArray, List.getElem?_cons_succ, List.getElem?_cons_zero]; try rfl)
          case hQ16 => exact fun _ _ _ h => h
          case hy16 =>
            refine Or.inl ⟨by rfl, ?_⟩
            (intro wq hSw; (try dsimp only at hSw); go_simp; try with_reducible rfl)
          (try simp only [Act.put, List.setIfInBounds_toArray, List.set_cons_zero, List.set_cons_succ])
          refine wpAnyH_take (i := 6) (oi := ?oi17) (v := ?v17) ?hi17 (by kernel_rfl) (by kernel_rfl) (by kernel_rfl) ?hQ17 ?hy17 (by assumption) ?hrest17
          case hi17 => (simp only [List.getElem?_toArray, List.getElem?_cons_succ, List.getElem?_cons_zero]; try rfl)
          case hQ17 => exact fun _ _ _ h => h
          case hy17 =>
            refine Or.inl ⟨by rfl, ?_⟩
            (intro wq hSw; (try dsimp only at hSw); go_simp; try with_reducible rfl)
          (try simp only [Act.put, List.setIfInBounds_toArray, List.set_cons_zero, List.set_cons_succ])
          refine wpAnyH_take (i := 7) (oi := ?oi18) (v := ?v18) ?hi18 (by kernel_rfl) (by kernel_rfl) (by kernel_rfl) ?hQ18 ?hy18 (by assumption) ?hrest18
          case hi18 => (simp only [List.getElem?_toArray, List.getElem?_cons_succ, List.getElem?_cons_zero]; try rfl)
          case hQ18 => exact fun _ _ _ h => h
          case hy18 =>
            refine Or.inl ⟨by rfl, ?_⟩
            (intro wq hSw; (try dsimp only at hSw); go_simp; try with_reducible rfl)
          (try simp only [Act.put, List.setIfInBounds_toArray, List.set_cons_zero, List.set_cons_succ])
          refine wpAnyH_ready (rs := [8]) (by kernel_rfl) (by simp) ?_
          refine AllReadyH.cons (o := ?oi19) ?hi19 (fun K hK => ?hstep19) AllReadyH.nil
          case hi19 => (simp only [List.getElem?_toArray, List.getElem?_cons_succ, List.getElem?_cons_zero]; try rfl)
          go_simp
          ((first | refine newvar_Kd ?_ | refine newvar_K ?_); intro wz hbx nv nf nz; have m0 := nv 0 _ rfl; have m1 := nv 1 _ rfl; have m2 := nv 2 _ rfl; have bz := below_step (Below.refl w6.heap.size w6).drew hbx; have hxs := ((h.below b6).below bz).1; have bz0 := below_step b6 bz)
          refine hK.out _ _ ?_ (fun hHeld => ?_)
          · exact hHeld.trans (hbx.mono (by have := hHeld.size; omega))
          clear hK K
          (try simp only [Act.put, List.setIfInBounds_toArray, List.set_cons_zero, List.set_cons_succ])
          refine wpAnyH_ready (rs := [9]) (by kernel_rfl) (by simp) ?_
          refine AllReadyH.cons (o := ?oi20) ?hi20 (fun K hK => ?hstep20) AllReadyH.nil
          case hi20 => (simp only [List.getElem?_toArray, List.getElem?_cons_succ, List.getElem?_cons_zero]; try rfl)
          (refine oper_app_full rfl (.tmp 35) (.tmp 37) 24 rfl 32 Try.underlying24 infoE rfl (by decide) A xs.length (xs.flatMap enEl.cells) rfl (enEl.flat_len _) hxs.1 ⟨w6.drew.heap.size, 0, none⟩ 1 1 [.int .i64 x.c, .int .i64 x.r, .slice x.A x.op.length x.cap] rfl (by decide) rfl (rd_three m0 m1 m2) (by intro u hu; simp at hu; rcases hu with rfl | rfl | rfl <;> rfl) HA0.out (by omega) (by omega) ?_; intro v7 w7 own7 hg7; obtain ⟨C7, q7, hv7, hq7, _⟩ := own_shape own7; subst hv7; have hb7 : Below wz.heap.size wz w7 := (Below.refl _ _).grown hg7 (Nat.le_refl _) (fun k hk => by cases hk); obtain ⟨v0, v1, f0, f1, hz⟩ := (V6.out.on bz).on hb7)
          refine hK.out _ _ ?_ (fun hHeld => ?_)
          · exact hHeld.trans (hb7.mono (by have := hHeld.size; omega))
          clear hK K
          (try simp only [Act.put, List.setIfInBounds_toArray, List.set_cons_zero, List.set_cons_succ])
          refine wpAnyH_take (i := 10) (oi := ?oi21) (v := ?v21) ?hi21 (by kernel_rfl) (by kernel_rfl) (by kernel_rfl) ?hQ21 ?hy21 (by assumption) ?hrest21
          case hi21 => (simp only [List.getElem?_toArray, List.getElem?_cons_succ, List.getElem?_cons_zero]; try rfl)
          case hQ21 => exact fun _ _ _ h => h
          case hy21 =>
            refine Or.inl ⟨by rfl, ?_⟩
            (intro wq hSw; (try dsimp only at hSw); go_simp; try with_reducible rfl)
          (try simp only [Act.put, List.setIfInBounds_toArray, List.set_cons_zero, List.set_cons_succ])
          refine wpAnyH_ready (rs := [11]) (by kernel_rfl) (by simp) ?_
          refine AllReadyH.cons (o := ?oi22) ?hi22 (fun K hK => ?hstep22) AllReadyH.nil
          case hi22 => (simp only [List.getElem?_toArray, List.getElem?_cons_succ, List.getElem?_cons_zero]; try rfl)
          go_simp
          (skip)
          refine hK.out _ _ ?_ (fun hHeld => ?_)
          · exact (hHeld.setCell (p := ⟨w.heap.size + 2, 0, none⟩) (Nat.le_refl _) _).setCell (p := ⟨w.heap.size + 2, 1, none⟩) (Nat.le_refl _) _
          clear hK K
          (try simp only [Act.put, List.setIfInBounds_toArray, List.set_cons_zero, List.set_cons_succ])
          refine wpAnyH_take (i := 12) (oi := ?oi23) (v := ?v23) ?hi23 (by kernel_rfl) (by kernel_rfl) (by kernel_rfl) ?hQ23 ?hy23 (by assumption) ?hrest23
          case hi23 => (simp only [List.getElem?_toArray, List.getElem?_cons_succ, List.getElem?_cons_zero]; try rfl)
          case hQ23 => exact fun _ _ _ h => h
          case hy23 =>
            refine Or.inl ⟨by rfl, ?_⟩
            (intro wq hSw; (try dsimp only at hSw); go_simp; try with_reducible rfl)
          (try simp only [Act.put, List.setIfInBounds_toArray, List.set_cons_zero, List.set_cons_succ])
          refine wpAnyH_done (by kernel_rfl) ?_ _
          refine NoPanic.normal ?_
          obtain ⟨z0, z1⟩ := set2_cells v0 v1 (.int .i64 s) (.slice C7 (xs.length + 1) q7)
          have bf := b6.trans (hHeld.mono hws)
          have hbz : w.heap.size + 2 < wz.heap.size := Nat.lt_of_lt_of_le hz6 bz.size
          have bl := lg_own (us := xs ++ [x]) (by rw [List.flatMap_append]; exact own7) (by simp) (fun a ha p hp => (List.mem_append.1 ha).elim (fun ha => h.1.2 a ha p hp) (fun ha => by rw [List.mem_singleton.1 ha] at hp; rw [List.mem_singleton.1 hp]; exact hx)) hbz bf
          rw [HM.out] at bl
          go_wp2_with fail
          refine bodyPost_ret (v := .tuple #[.agg #[.int .i64 s, .slice C7 (xs.length + 1) q7], .int .i64 0]) (by simp [results, Try.results8, go_sem, z0, z1]) rfl ?_
          exact ⟨C7, q7, xs ++ [x], by rw [List.length_append]; rfl, bl, (fun ad hA => by have h1 := (own_lt own7 (k := ad.block) (by rw [hA]; rfl)).1; have h2 := bz0.size; omega), bf⟩
end Go.Proofs.Ytbfjhclibbonjaa
