import Derived.Test.YtoceipdkmafagaaOpQ
import Derived.Test.YtoceipdkmafagaaPlain1
/-! the ref's op: operations alike -/
namespace Go.Proofs.Ytoceipdkmafagaa
open Go.RowKit Go.Cov
theorem oa_same (o p : Oa) : sameO o.data p.data = (decide (o.k = p.k) && decide (o.n = p.n) && decide (o.s = p.s) && decide (o.f = p.f) && decide (o.g = p.g) && decide (o.key = p.key) && decide (o.a.map En.data = p.a.map En.data)) := rfl
theorem en_diff (xs ys : List En) (k : Nat) (hk : k < xs.length) (hj : k < ys.length) (h : xs[k].data ≠ ys[k].data) : decide (xs.map En.data = ys.map En.data) = false := by
  refine decide_eq_false (fun e => h ?_)
  have : (xs.map En.data)[k]? = (ys.map En.data)[k]? := by rw [e]
  rw [List.getElem?_map, List.getElem?_map, List.getElem?_eq_getElem hk, List.getElem?_eq_getElem hj] at this
  simpa using this
theorem en_alike (xs ys : List En) (hl : xs.length = ys.length) (h : ∀ k, (hk : k < xs.length) → (hj : k < ys.length) → xs[k].data = ys[k].data) : decide (xs.map En.data = ys.map En.data) = true := by
  refine decide_eq_true (List.ext_getElem (by simpa using hl) (fun k h1 h2 => ?_))
  rw [List.getElem_map, List.getElem_map]
  exact h k (by simpa using h1) (by simpa using h2)
set_option maxRecDepth 100000 in
set_option maxHeartbeats 12800000 in
theorem same_any (o p : Oa) {w : World} (ho : OaRd w o) (hp : OaRd w p) :
    Calls Try.prog 17 #[o.val, p.val] w fun e w' => e = .returned (.bool (sameO o.data p.data)) ∧ Below w.heap.size w w' := by
  have HS := hid (oa_same o p)
  have b1 := below_alloc w (.cells o.cells.toArray 25)
  have R1 := Row.new w o.cells 25
  unfold Oa.val
  unfold Oa.cells at b1 R1
  go_enter Try.func17, Try.ntmps17
  obtain ⟨w1, hw1⟩ : ∃ w1, w1 = w.alloc (.cells o.cells.toArray 25) := ⟨_, rfl⟩
  unfold Oa.cells at hw1
  have n1 : w1.heap.size = w.heap.size + 1 := by rw [hw1]; simp
  have b1 : Below w.heap.size w w1 := by rw [hw1]; exact b1
  have R1 : Row w1 w.heap.size o.cells := by rw [hw1]; exact R1
  unfold Oa.cells at R1
  have b2 := below_alloc w1 (.cells p.cells.toArray 25)
  have R2 := Row.new w1 p.cells 25
  unfold Oa.cells at b2 R2
  have R1 := R1.below b2
  rw [n1] at R2
  go_upto_region 1 with fail
  rw [← hw1]
  clear hw1
  generalize w1.alloc _ = w2 at b2 R1 R2 ⊢
  have b02 := below_step b1 b2
  have C0 := (R1.2 0 _ rfl).1
  have D0 := (R2.2 0 _ rfl).1
  have C1 := (R1.2 1 _ rfl).1
  have D1 := (R2.2 1 _ rfl).1
  have C2 := (R1.2 2 _ rfl).1
  have D2 := (R2.2 2 _ rfl).1
  have C3 := (R1.2 3 _ rfl).1
  have D3 := (R2.2 3 _ rfl).1
  have C4 := (R1.2 4 _ rfl).1
  have D4 := (R2.2 4 _ rfl).1
  have C5 := (R1.2 5 _ rfl).1
  have D5 := (R2.2 5 _ rfl).1
  have C6 := (R1.2 6 _ rfl).1
  have D6 := (R2.2 6 _ rfl).1
  have ho := ho.below b02
  have hp := hp.below b02
  have c1 := cv w2 ho.s o.sc
  have c2 := cv w2 hp.s p.sc
  have c3 := cv w2 ho.key o.kc
  have c4 := cv w2 hp.key p.kc
  have s1 := str_beq o.n p.n
  have s2 := str_beq o.s p.s
  have s3 := str_beq o.f p.f
  have s4 := str_beq o.key p.key
  clear R1 R2 b1 b2 n1
  generalize hg : str o.n = tn1 at *
  clear hg
  generalize hg : str p.n = tn2 at *
  clear hg
  generalize hg : str o.s = ts1 at *
  clear hg
  generalize hg : str p.s = ts2 at *
  clear hg
  generalize hg : str o.f = tf1 at *
  clear hg
  generalize hg : str p.f = tf2 at *
  clear hg
  generalize hg : str o.key = tk1 at *
  clear hg
  generalize hg : str p.key = tk2 at *
  clear hg
  by_cases h0 : o.k = p.k
  case neg =>
    have j0 : (o.k != p.k) = true := by simp [h0]
    replace h0 := hid h0
    go_wp2_with fail
    go_ret
    exact ⟨by rw [HS.out, decide_eq_false h0.out]; rfl, b02⟩
  have j0 : (o.k != p.k) = false := by simp [h0]
  replace h0 := hid h0
  by_cases h1 : o.n = p.n
  case neg =>
    rw [decide_eq_false h1] at s1
    replace h1 := hid h1
    go_wp2_with fail
    go_ret
    exact ⟨by rw [HS.out, decide_eq_true h0.out, decide_eq_false h1.out]; rfl, b02⟩
  rw [decide_eq_true h1] at s1
  replace h1 := hid h1
  by_cases h2 : o.s = p.s
  case neg =>
    rw [decide_eq_false h2] at s2
    replace h2 := hid h2
    go_wp2_with fail
    go_ret
    exact ⟨by rw [HS.out, decide_eq_true h0.out, decide_eq_true h1.out, decide_eq_false h2.out]; rfl, b02⟩
  rw [decide_eq_true h2] at s2
  replace h2 := hid h2
  by_cases h3 : o.f = p.f
  case neg =>
    rw [decide_eq_false h3] at s3
    replace h3 := hid h3
    go_wp2_with fail
    go_ret
    exact ⟨by rw [HS.out, decide_eq_true h0.out, decide_eq_true h1.out, decide_eq_true h2.out, decide_eq_false h3.out]; rfl, b02⟩
  rw [decide_eq_true h3] at s3
  replace h3 := hid h3
  by_cases h4 : o.g = p.g
  case neg =>
    have j4 : (o.g != p.g) = true := by simp [h4]
    replace h4 := hid h4
    go_wp2_with fail
    go_ret
    exact ⟨by rw [HS.out, decide_eq_true h0.out, decide_eq_true h1.out, decide_eq_true h2.out, decide_eq_true h3.out, decide_eq_false h4.out]; rfl, b02⟩
  have j4 : (o.g != p.g) = false := by simp [h4]
  replace h4 := hid h4
  by_cases h5 : o.key = p.key
  case neg =>
    rw [decide_eq_false h5] at s4
    replace h5 := hid h5
    go_wp2_with fail
    go_ret
    exact ⟨by rw [HS.out, decide_eq_true h0.out, decide_eq_true h1.out, decide_eq_true h2.out, decide_eq_true h3.out, decide_eq_true h4.out, decide_eq_false h5.out]; rfl, b02⟩
  rw [decide_eq_true h5] at s4
  replace h5 := hid h5
  by_cases h6 : o.a.length = p.a.length
  case neg =>
    have j6 : ((o.a.length : Int) != p.a.length) = true := by simp; omega
    replace h6 := hid h6
    go_wp2_with fail
    go_ret
    exact ⟨by rw [HS.out, decide_eq_true h0.out, decide_eq_true h1.out, decide_eq_true h2.out, decide_eq_true h3.out, decide_eq_true h4.out, decide_eq_true h5.out, decide_eq_false (fun e => h6.out (by simpa using congrArg List.length e))]; rfl, b02⟩
  have j6 : ((o.a.length : Int) != p.a.length) = false := by simp [h6]
  replace h6 := hid h6
  have hm := ho.am
  have hm2 : o.a.length ≤ 9223372036854775807 := hm
  have HS2 : Hid (sameO o.data p.data = decide (o.a.map En.data = p.a.map En.data)) := hid (by rw [HS.out, decide_eq_true h0.out, decide_eq_true h1.out, decide_eq_true h2.out, decide_eq_true h3.out, decide_eq_true h4.out, decide_eq_true h5.out]; simp)
  go_wp2_with fail
  clear HS s1 s2 s3 s4 c1 c2 c3 c4
  go_loopw [5, 6] (fun i s6 W => ∃ k : Nat, k ≤ o.a.length ∧ i = .int .i64 k ∧ (∀ j, (h : j < o.a.length) → (h' : j < p.a.length) → j < k → o.a[j].data = p.a[j].data) ∧ Below w2.heap.size w2 W) (fun i _ _ => o.a.length - (RowKit.intOf i).toNat)
  case atStart => exact ⟨0, by omega, rfl, fun j _ _ hj => by omega, Below.refl _ _⟩
  case round =>
    obtain ⟨k, hk, rfl, hall, hb⟩ := hrel
    have E4 := cell_on hb C4
    have G4 := cell_on hb D4
    by_cases hlt : k < o.a.length
    · have hlt2 : k < p.a.length := by have := h6.out; omega
      have i1 : (k : Int) < o.a.length := by omega
      have i2 : (k : Int) < p.a.length := by omega
      obtain ⟨ad, hA, x0, x1, x2, rx⟩ := en_at (ho.a.below hb) k hlt
      obtain ⟨bd, hB, y0, y1, y2, ry⟩ := en_at (hp.a.below hb) k hlt2
      rw [hA] at E4
      rw [hB] at G4
      replace hA := hid hA
      replace hB := hid hB
      have KS := fun W (hW : Below wr.heap.size wr W) => samev_any o.a[k] p.a[k] (rx.below hW) (ry.below hW)
      have e4 := fun W (hW : Below wr.heap.size wr W) => cell_on hW E4
      have g4 := fun W (hW : Below wr.heap.size wr W) => cell_on hW G4
      have q0 := fun W (hW : Below wr.heap.size wr W) => cell_on hW x0
      have q1 := fun W (hW : Below wr.heap.size wr W) => cell_on hW x1
      have q2 := fun W (hW : Below wr.heap.size wr W) => cell_on hW x2
      have r0 := fun W (hW : Below wr.heap.size wr W) => cell_on hW y0
      have r1 := fun W (hW : Below wr.heap.size wr W) => cell_on hW y1
      have r2 := fun W (hW : Below wr.heap.size wr W) => cell_on hW y2
      clear x0 x1 x2 y0 y1 y2 rx ry
      go_upto_region 6 with fail
      clear E4 G4
      have bcur := (Below.refl wr.heap.size wr).drew
      by_cases hxy : o.a[k].data = p.a[k].data
      · rw [decide_eq_true hxy] at KS
        replace hxy := hid hxy
        refine wp_region_noPanic ?_
        refine wp_region_held_drew (S := (fun W => Below wr.heap.size wr W)) (by kernel_rfl) ?_ (fun hHeld => ?_)
        · exact (Below.refl _ _).drew
        refine wpAnyH_take (i := 0) (oi := ?oi1) (v := ?v1) ?hi1 (by kernel_rfl) (by kernel_rfl) (by kernel_rfl) ?hQ1 ?hy1 (by assumption) ?hrest1
        case hi1 => (simp only [List.getElem?_toArray, List.getElem?_cons_zero]; try rfl)
        case hQ1 => exact fun _ _ _ h => h
        case hy1 =>
          refine Or.inl ⟨by rfl, ?_⟩
          (intro wq hSw; (try dsimp only at hSw); go_simp; try with_reducible rfl)
        (try simp only [Act.put, List.setIfInBounds_toArray, List.set_cons_zero, List.set_cons_succ])
        refine wpAnyH_take (i := 1) (oi := ?oi2) (v := ?v2) ?hi2 (by kernel_rfl) (by kernel_rfl) (by kernel_rfl) ?hQ2 ?hy2 (by assumption) ?hrest2
        case hi2 => (simp only [List.getElem?_toArray, List.getElem?_cons_succ, List.getElem?_cons_zero]; try rfl)
        case hQ2 => exact fun _ _ _ h => h
        case hy2 =>
          refine Or.inl ⟨by rfl, ?_⟩
          (intro wq hSw; (try dsimp only at hSw); go_simp; try with_reducible rfl)
        (try simp only [Act.put, List.setIfInBounds_toArray, List.set_cons_zero, List.set_cons_succ])
        refine wpAnyH_take (i := 2) (oi := ?oi3) (v := ?v3) ?hi3 (by kernel_rfl) (by kernel_rfl) (by kernel_rfl) ?hQ3 ?hy3 (by assumption) ?hrest3
        case hi3 => (simp only [List.getElem?_toArray, List.getElem?_cons_succ, List.getElem?_cons_zero]; try rfl)
        case hQ3 => exact fun _ _ _ h => h
        case hy3 =>
          refine Or.inl ⟨by rfl, ?_⟩
          (intro wq hSw; (try dsimp only at hSw); go_simp; try with_reducible rfl)
        (try simp only [Act.put, List.setIfInBounds_toArray, List.set_cons_zero, List.set_cons_succ])
        refine wpAnyH_take (i := 3) (oi := ?oi4) (v := ?v4) ?hi4 (by kernel_rfl) (by kernel_rfl) (by kernel_rfl) ?hQ4 ?hy4 (by assumption) ?hrest4
        case hi4 => (simp only [List.getElem?_toArray, List.getElem?_cons_succ, List.getElem?_cons_zero]; try rfl)
        case hQ4 => exact fun _ _ _ h => h
        case hy4 =>
          refine Or.inl ⟨by rfl, ?_⟩
          (intro wq hSw; (try dsimp only at hSw); go_simp; try with_reducible rfl)
        (try simp only [Act.put, List.setIfInBounds_toArray, List.set_cons_zero, List.set_cons_succ])
        refine wpAnyH_take (i := 4) (oi := ?oi5) (v := ?v5) ?hi5 (by kernel_rfl) (by kernel_rfl) (by kernel_rfl) ?hQ5 ?hy5 (by assumption) ?hrest5
        case hi5 => (simp only [List.getElem?_toArray, List.getElem?_cons_succ, List.getElem?_cons_zero]; try rfl)
        case hQ5 => exact fun _ _ _ h => h
        case hy5 =>
          refine Or.inl ⟨by rfl, ?_⟩
          (intro wq hSw; (try dsimp only at hSw); go_simp; try with_reducible rfl)
        (try simp only [Act.put, List.setIfInBounds_toArray, List.set_cons_zero, List.set_cons_succ])
        refine wpAnyH_take (i := 5) (oi := ?oi6) (v := ?v6) ?hi6 (by kernel_rfl) (by kernel_rfl) (by kernel_rfl) ?hQ6 ?hy6 (by assumption) ?hrest6
        case hi6 => (simp only [List.getElem?_toArray, List.getElem?_cons_succ, List.getElem?_cons_zero]; try rfl)
        case hQ6 => exact fun _ _ _ h => h
        case hy6 =>
          refine Or.inl ⟨by rfl, ?_⟩
          (intro wq hSw; (try dsimp only at hSw); go_simp; try with_reducible rfl)
        (try simp only [Act.put, List.setIfInBounds_toArray, List.set_cons_zero, List.set_cons_succ])
        refine wpAnyH_take (i := 6) (oi := ?oi7) (v := ?v7) ?hi7 (by kernel_rfl) (by kernel_rfl) (by kernel_rfl) ?hQ7 ?hy7 (by assumption) ?hrest7
        case hi7 => (simp only [List.getElem?_toArray, List.getElem?_cons_succ, List.getElem?_cons_zero]; try rfl)
        case hQ7 => exact fun _ _ _ h => h
        case hy7 =>
          refine Or.inl ⟨by rfl, ?_⟩
          (intro wq hSw; (try dsimp only at hSw); go_simp; try with_reducible rfl)
        (try simp only [Act.put, List.setIfInBounds_toArray, List.set_cons_zero, List.set_cons_succ])
        refine wpAnyH_take (i := 7) (oi := ?oi8) (v := ?v8) ?hi8 (by kernel_rfl) (by kernel_rfl) (by kernel_rfl) ?hQ8 ?hy8 (by assumption) ?hrest8
        case hi8 => (simp only [List.getElem?_toArray, List.getElem?_cons_succ, List.getElem?_cons_zero]; try rfl)
        case hQ8 => exact fun _ _ _ h => h
        case hy8 =>
          refine Or.inl ⟨by rfl, ?_⟩
          (intro wq hSw; (try dsimp only at hSw); go_simp; try with_reducible rfl)
        (try simp only [Act.put, List.setIfInBounds_toArray, List.set_cons_zero, List.set_cons_succ])
        refine wpAnyH_take (i := 8) (oi := ?oi9) (v := ?v9) ?hi9 (by kernel_rfl) (by kernel_rfl) (by kernel_rfl) ?hQ9 ?hy9 (by assumption) ?hrest9
        case hi9 => (simp only [List.getElem?_toArray, List.getElem?_cons_succ, List.getElem?_cons_zero]; try rfl)
        case hQ9 => exact fun _ _ _ h => h
        case hy9 =>
          refine Or.inl ⟨by rfl, ?_⟩
          (intro wq hSw; (try dsimp only at hSw); go_simp; try with_reducible rfl)
        (try simp only [Act.put, List.setIfInBounds_toArray, List.set_cons_zero, List.set_cons_succ])
        refine wpAnyH_take (i := 9) (oi := ?oi10) (v := ?v10) ?hi10 (by kernel_rfl) (by kernel_rfl) (by kernel_rfl) ?hQ10 ?hy10 (by assumption) ?hrest10
        case hi10 => (simp only [List.getElem?_toArray, List.getElem?_cons_succ, List.getElem?_cons_zero]; try rfl)
        case hQ10 => exact fun _ _ _ h => h
        case hy10 =>
          refine Or.inl ⟨by rfl, ?_⟩
          (intro wq hSw; (try dsimp only at hSw); go_simp; try with_reducible rfl)
        (try simp only [Act.put, List.setIfInBounds_toArray, List.set_cons_zero, List.set_cons_succ])
        refine wpAnyH_ready (rs := [10]) (by kernel_rfl) (by simp) ?_
        refine AllReadyH.cons (o := ?oi11) ?hi11 (fun K hK => ?hstep11) AllReadyH.nil
        case hi11 => (simp only [List.getElem?_toArray, List.getElem?_cons_succ, List.getElem?_cons_zero]; try rfl)
        go_simp
        (refine (KS _ bcur).mono ?_; rintro e wx ⟨rfl, hbx⟩)
        refine hK.out _ _ ?_ (fun hHeld => ?_)
        · exact below_step hHeld hbx
        clear hK K
        (try dsimp only)
        refine wpAnyH_take (i := 11) (oi := ?oi12) (v := ?v12) ?hi12 (by kernel_rfl) (by kernel_rfl) (by kernel_rfl) ?hQ12 ?hy12 (by assumption) ?hrest12
        case hi12 => (simp only [List.getElem?_toArray, List.getElem?_cons_succ, List.getElem?_cons_zero]; try rfl)
        case hQ12 => exact fun _ _ _ h => h
        case hy12 =>
          refine Or.inl ⟨by rfl, ?_⟩
          (intro wq hSw; (try dsimp only at hSw); go_simp; try with_reducible rfl)
        (try simp only [Act.put, List.setIfInBounds_toArray, List.set_cons_zero, List.set_cons_succ])
        refine wpAnyH_done (by kernel_rfl) ?_ _
        refine NoPanic.normal ?_
        ((go_wp2_with fail); go_roundw; (case rel => exact ⟨k + 1, by omega, by go_num, fun j h h' hj => (if hjk : j = k then by subst hjk; exact hxy.out else hall j h h' (by omega)), below_step hb hHeld⟩); (case measure => simp [RowKit.intOf]; omega))
      · have hf := hid (en_diff o.a p.a k hlt hlt2 hxy)
        rw [decide_eq_false hxy] at KS
        clear hxy
        refine wp_region_noPanic ?_
        refine wp_region_held_drew (S := (fun W => Below wr.heap.size wr W)) (by kernel_rfl) ?_ (fun hHeld => ?_)
        · exact (Below.refl _ _).drew
        refine wpAnyH_take (i := 0) (oi := ?oi13) (v := ?v13) ?hi13 (by kernel_rfl) (by kernel_rfl) (by kernel_rfl) ?hQ13 ?hy13 (by assumption) ?hrest13
        case hi13 => (simp only [List.getElem?_toArray, List.getElem?_cons_zero]; try rfl)
        case hQ13 => exact fun _ _ _ h => h
        case hy13 =>
          refine Or.inl ⟨by rfl, ?_⟩
          (intro wq hSw; (try dsimp only at hSw); go_simp; try with_reducible rfl)
        (try simp only [Act.put, List.setIfInBounds_toArray, List.set_cons_zero, List.set_cons_succ])
        refine wpAnyH_take (i := 1) (oi := ?oi14) (v := ?v14) ?hi14 (by kernel_rfl) (by kernel_rfl) (by kernel_rfl) ?hQ14 ?hy14 (by assumption) ?hrest14
        case hi14 => (simp only [List.getElem?_toArray, List.getElem?_cons_succ, List.getElem?_cons_zero]; try rfl)
        case hQ14 => exact fun _ _ _ h => h
        case hy14 =>
          refine Or.inl ⟨by rfl, ?_⟩
          (intro wq hSw; (try dsimp only at hSw); go_simp; try with_reducible rfl)
        (try simp only [Act.put, List.setIfInBounds_toArray, List.set_cons_zero, List.set_cons_succ])
        refine wpAnyH_take (i := 2) (oi := ?oi15) (v := ?v15) ?hi15 (by kernel_rfl) (by kernel_rfl) (by kernel_rfl) ?hQ15 ?hy15 (by assumption) ?hrest15
        case hi15 => (simp only [List.getElem?_toArray, List.getElem?_cons_succ, List.getElem?_cons_zero]; try rfl)
        case hQ15 => exact fun _ _ _ h => h
        case hy15 =>
          refine Or.inl ⟨by rfl, ?_⟩
          (intro wq hSw; (try dsimp only at hSw); go_simp; try with_reducible rfl)
        (try simp only [Act.put, List.setIfInBounds_toArray, List.set_cons_zero, List.set_cons_succ])
        refine wpAnyH_take (i := 3) (oi := ?oi16) (v := ?v16) ?hi16 (by kernel_rfl) (by kernel_rfl) (by kernel_rfl) ?hQ16 ?hy16 (by assumption) ?hrest16
        case hi16 => (simp only [List.getElem?_toArray, List.getElem?_cons_succ, List.getElem?_cons_zero]; try rfl)
        case hQ16 => exact fun _ _ _ h => h
        case hy16 =>
          refine Or.inl ⟨by rfl, ?_⟩
          (intro wq hSw; (try dsimp only at hSw); go_simp; try with_reducible rfl)
        (try simp only [Act.put, List.setIfInBounds_toArray, List.set_cons_zero, List.set_cons_succ])
        refine wpAnyH_take (i := 4) (oi := ?oi17) (v := ?v17) ?hi17 (by kernel_rfl) (by kernel_rfl) (by kernel_rfl) ?hQ17 ?hy17 (by assumption) ?hrest17
        case hi17 => (simp only [List.getElem?_toArray, List.getElem?_cons_succ, List.getElem?_cons_zero]; try rfl)
        case hQ17 => exact fun _ _ _ h => h
        case hy17 =>
          refine Or.inl ⟨by rfl, ?_⟩
          (intro wq hSw; (try dsimp only at hSw); go_simp; try with_reducible rfl)
        (try simp only [Act.put, List.setIfInBounds_toArray, List.set_cons_zero, List.set_cons_succ])
        refine wpAnyH_take (i := 5) (oi := ?oi18) (v := ?v18) ?hi18 (by kernel_rfl) (by kernel_rfl) (by kernel_rfl) ?hQ18 ?hy18 (by assumption) ?hrest18
        case hi18 => (simp only [List.getElem?_toArray, List.getElem?_cons_succ, List.getElem?_cons_zero]; try rfl)
        case hQ18 => exact fun _ _ _ h => h
        case hy18 =>
          refine Or.inl ⟨by rfl, ?_⟩
          (intro wq hSw; (try dsimp only at hSw); go_simp; try with_reducible rfl)
        (try simp only [Act.put, List.setIfInBounds_toArray, List.set_cons_zero, List.set_cons_succ])
        refine wpAnyH_take (i := 6) (oi := ?oi19) (v := ?v19) ?hi19 (by kernel_rfl) (by kernel_rfl) (by kernel_rfl) ?hQ19 ?hy19 (by assumption) ?hrest19
        case hi19 => (simp only [List.getElem?_toArray, List.getElem?_cons_succ, List.getElem?_cons_zero]; try rfl)
        case hQ19 => exact fun _ _ _ h => h
        case hy19 =>
          refine Or.inl ⟨by rfl, ?_⟩
          (intro wq hSw; (try dsimp only at hSw); go_simp; try with_reducible rfl)
        (try simp only [Act.put, List.setIfInBounds_toArray, List.set_cons_zero, List.set_cons_succ])
        refine wpAnyH_take (i := 7) (oi := ?oi20) (v := ?v20) ?hi20 (by kernel_rfl) (by kernel_rfl) (by kernel_rfl) ?hQ20 ?hy20 (by assumption) ?hrest20
        case hi20 => (simp only [List.getElem?_toArray, List.getElem?_cons_succ, List.getElem?_cons_zero]; try rfl)
        case hQ20 => exact fun _ _ _ h => h
        case hy20 =>
          refine Or.inl ⟨by rfl, ?_⟩
          (intro wq hSw; (try dsimp only at hSw); go_simp; try with_reducible rfl)
        (try simp only [Act.put, List.setIfInBounds_toArray, List.set_cons_zero, List.set_cons_succ])
        refine wpAnyH_take (i := 8) (oi := ?oi21) (v := ?v21) ?hi21 (by kernel_rfl) (by kernel_rfl) (by kernel_rfl) ?hQ21 ?hy21 (by assumption) ?hrest21
        case hi21 => (simp only [List.getElem?_toArray, List.getElem?_cons_succ, List.getElem?_cons_zero]; try rfl)
        case hQ21 => exact fun _ _ _ h => h
        case hy21 =>
          refine Or.inl ⟨by rfl, ?_⟩
          (intro wq hSw; (try dsimp only at hSw); go_simp; try with_reducible rfl)
        (try simp only [Act.put, List.setIfInBounds_toArray, List.set_cons_zero, List.set_cons_succ])
        refine wpAnyH_take (i := 9) (oi := ?oi22) (v := ?v22) ?hi22 (by kernel_rfl) (by kernel_rfl) (by kernel_rfl) ?hQ22 ?hy22 (by assumption) ?hrest22
        case hi22 => (simp only [List.getElem?_toArray, List.getElem?_cons_succ, List.getElem?_cons_zero]; try rfl)
        case hQ22 => exact fun _ _ _ h => h
        case hy22 =>
          refine Or.inl ⟨by rfl, ?_⟩
          (intro wq hSw; (try dsimp only at hSw); go_simp; try with_reducible rfl)
        (try simp only [Act.put, List.setIfInBounds_toArray, List.set_cons_zero, List.set_cons_succ])
        refine wpAnyH_ready (rs := [10]) (by kernel_rfl) (by simp) ?_
        refine AllReadyH.cons (o := ?oi23) ?hi23 (fun K hK => ?hstep23) AllReadyH.nil
        case hi23 => (simp only [List.getElem?_toArray, List.getElem?_cons_succ, List.getElem?_cons_zero]; try rfl)
        go_simp
        (refine (KS _ bcur).mono ?_; rintro e wx ⟨rfl, hbx⟩)
        refine hK.out _ _ ?_ (fun hHeld => ?_)
        · exact below_step hHeld hbx
        clear hK K
        (try dsimp only)
        refine wpAnyH_take (i := 11) (oi := ?oi24) (v := ?v24) ?hi24 (by kernel_rfl) (by kernel_rfl) (by kernel_rfl) ?hQ24 ?hy24 (by assumption) ?hrest24
        case hi24 => (simp only [List.getElem?_toArray, List.getElem?_cons_succ, List.getElem?_cons_zero]; try rfl)
        case hQ24 => exact fun _ _ _ h => h
        case hy24 =>
          refine Or.inl ⟨by rfl, ?_⟩
          (intro wq hSw; (try dsimp only at hSw); go_simp; try with_reducible rfl)
        (try simp only [Act.put, List.setIfInBounds_toArray, List.set_cons_zero, List.set_cons_succ])
        refine wpAnyH_done (by kernel_rfl) ?_ _
        refine NoPanic.normal ?_
        ((go_wp2_with fail); go_ret; exact ⟨by rw [HS2.out, hf.out]; rfl, b02.trans ((below_step hb hHeld).mono b02.size)⟩)
    · obtain rfl : k = o.a.length := by omega
      go_wp2_with fail
      go_ret
      exact ⟨by rw [HS2.out, en_alike o.a p.a h6.out (fun j h1 h2 => hall j h1 h2 h1)]; rfl, b02.trans (hb.mono b02.size)⟩
end Go.Proofs.Ytoceipdkmafagaa
