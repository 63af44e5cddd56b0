import Derived.Test.YtnkocbdbfkhgmaaDoorCodeHead
import Derived.Test.YtnkocbdbfkhgmaaDoorPlain1
/-! code: what is too much -/
namespace Go.Proofs.YtnkocbdbfkhgmaaDoor
open Go.RowKit Go.Cov
/-- the lesser of two, whichever way it is asked -/
theorem min_is (L : Nat) : ∃ m : Int, (0 ≤ m ∧ m ≤ 200000) ∧ (if (L : Int) < 200000 then (L : Int) else 200000) = m ∧ (if 200000 < (L : Int) then 200000 else (L : Int)) = m ∧ (if (L : Int) ≤ 200000 then (L : Int) else 200000) = m := by
  refine ⟨if (L : Int) < 200000 then (L : Int) else 200000, ?_, rfl, ?_, ?_⟩
  · split <;> omega
  · split <;> split <;> omega
  · split <;> split <;> omega
theorem code_len {c : Nat} {n : Nat} (h : n ≤ c ∧ c ≤ maxLen) : n ≤ 9223372036854775807 := by unfold maxLen at h; omega
set_option maxRecDepth 100000 in
set_option maxHeartbeats 12800000 in
theorem great_any {w : World} {m : Mo} (h : MoRd w m) : Calls Tryd.prog 11 #[.agg #[.slice m.cA m.cs.length m.cc, .slice m.tA m.ts.length m.tc]] w fun e w' => ∃ q : Bool, e = .returned (.bool q) ∧ Below w.heap.size w w' := by
  obtain ⟨cA, cc, cs, tA, tc, ts⟩ := m
  have hcm := code_len h.cc
  have htm := code_len h.tc
  dsimp only at hcm htm ⊢
  have b0 := below_alloc w (.cells #[.slice cA cs.length cc, .slice tA ts.length tc] 25)
  have R0 := Row.new w [.slice cA cs.length cc, .slice tA ts.length tc] 25
  replace h := hid h
  go_enter Tryd.func11, Tryd.ntmps11
  go_upto_region 1 with fail
  change Row (w.alloc (.cells #[.slice cA cs.length cc, .slice tA ts.length tc] 25)) _ _ at R0
  obtain ⟨kM, hkM⟩ : ∃ k, k = w.heap.size := ⟨_, rfl⟩
  generalize w.alloc (.cells #[.slice cA cs.length cc, .slice tA ts.length tc] 25) = w1 at b0 R0 ⊢
  rw [← hkM] at R0 ⊢
  replace hkM := hid hkM
  go_wp2_with fail
  go_loopw [3, 4] (fun s i W => ∃ (k : Nat) (n : Int), k ≤ cs.length ∧ i = .int .i64 k ∧ s = .int .i64 n ∧ (0 ≤ n ∧ n ≤ 800010) ∧ Below w1.heap.size w1 W) (fun _ i _ => cs.length - (RowKit.intOf i).toNat)
  case atStart => exact ⟨0, 0, by omega, rfl, rfl, by omega, Below.refl _ _⟩
  case round =>
    obtain ⟨k, n, hk, rfl, hs, hn, hb⟩ := hrel
    subst hs
    have R := R0.below hb
    have C0 := (R.2 0 _ rfl).1
    have C1 := (R.2 1 _ rfl).1
    go_upto_region 3 with fail
    go_cut [14] (fun s14 wx => (∃ q : Bool, s14 = .bool q ∧ (q = true → k < cs.length ∧ n < 200000)) ∧ wx = wr)
    case first =>
      by_cases h1 : (k : Int) < cs.length
      · have j1 : decide ((k : Int) < cs.length) = true := decide_eq_true h1
        obtain ⟨q, j2⟩ : ∃ q, decide (n < 200000) = q := ⟨_, rfl⟩
        have hq := hid (show q = true → k < cs.length ∧ n < 200000 from fun hh => ⟨by omega, by rw [hh] at j2; exact of_decide_eq_true j2⟩)
        replace R := hid R
        go_wp2_with fail
        go_meet
        exact ⟨⟨q, rfl, hq.out⟩, rfl⟩
      · have j1 : decide ((k : Int) < cs.length) = false := decide_eq_false h1
        replace R := hid R
        go_wp2_with fail
        go_meet
        exact ⟨⟨false, rfl, fun hh => by cases hh⟩, rfl⟩
    case rest =>
    obtain ⟨⟨q, rfl, hgo⟩, rfl⟩ := hcut
    cases q
    case true =>
      obtain ⟨hlt, hn2⟩ := hgo rfl
      clear hgo
      obtain ⟨ad, rfl, x0, x1, x2, x3, x4⟩ := co_at ((h.out.c.below b0).below hb) k hlt
      have hxr := h.out.r _ (List.getElem_mem hlt)
      generalize cs[k] = x at x0 x1 x2 x3 x4 hxr
      obtain ⟨nm, pA, pc, ps, res, slots, iA, ic, is⟩ := x
      dsimp only at x0 x1 x2 x3 x4
      obtain ⟨m1, hm1, e1, e1', e1''⟩ := min_is is.length
      obtain ⟨m2, hm2, e2, e2', e2''⟩ := min_is ps.length
      obtain ⟨m3, hm3, e3, e3', e3''⟩ := min_is (str nm).size
      obtain ⟨a1, ha1⟩ : ∃ a, a = n + 10 := ⟨_, rfl⟩
      obtain ⟨a2, ha2⟩ : ∃ a, a = a1 + m1 := ⟨_, rfl⟩
      obtain ⟨a3, ha3⟩ : ∃ a, a = a2 + m2 := ⟨_, rfl⟩
      obtain ⟨a4, ha4⟩ : ∃ a, a = a3 + m3 := ⟨_, rfl⟩
      have f1 : IntKind.i64.wrap (n + 10) = a1 := by rw [ha1]; exact wrap_of _ (by omega) (by omega)
      have f2 : IntKind.i64.wrap (a1 + m1) = a2 := by rw [ha2]; exact wrap_of _ (by omega) (by omega)
      have f3 : IntKind.i64.wrap (a2 + m2) = a3 := by rw [ha3]; exact wrap_of _ (by omega) (by omega)
      have f4 : IntKind.i64.wrap (a3 + m3) = a4 := by rw [ha4]; exact wrap_of _ (by omega) (by omega)
      have ha5 : 0 ≤ a4 ∧ a4 ≤ 800010 := by omega
      have hcn : cs.length ≤ 9223372036854775807 := hcm
      replace ha1 := hid ha1
      replace ha2 := hid ha2
      replace ha3 := hid ha3
      replace ha4 := hid ha4
      have i0 : (0 : Int) ≤ k := by omega
      have i1 : (k : Int) < cs.length := by omega
      have y0 := fun W (hW : Below wc.heap.size wc W) => cell_on hW x0
      have y1 := fun W (hW : Below wc.heap.size wc W) => cell_on hW x1
      have y4 := fun W (hW : Below wc.heap.size wc W) => cell_on hW x4
      have q0 := fun W (hW : Below wc.heap.size wc W) => cell_on hW C0
      replace R := hid R
      clear hxr x2 x3
      go_upto_region 5 with fail
      have bcur := (Below.refl wc.heap.size wc).drew
      refine wp_region_noPanic ?_
      refine wp_region_held_drew (S := (fun W => Below wc.heap.size wc W)) (by kernel_rfl) ?_ (fun hHeld => ?_)
      · exact (Below.refl _ _).drew
      refine wpAnyH_take (i := 0) (oi := ?oi1) (v := ?v1) ?hi1 (by kernel_rfl) (by kernel_rfl) (by kernel_rfl) ?hQ1 ?hy1 (by assumption) ?hrest1
      case hi1 => (simp only [List.getElem?_toArray, List.getElem?_cons_zero]; try rfl)
      case hQ1 => exact fun _ _ _ h => h
      case hy1 =>
        refine Or.inl ⟨by rfl, ?_⟩
        (intro wq hSw; (try dsimp only at hSw); go_simp; try with_reducible rfl)
      (try simp only [Act.put, List.setIfInBounds_toArray, List.set_cons_zero, List.set_cons_succ])
      refine wpAnyH_take (i := 1) (oi := ?oi2) (v := ?v2) ?hi2 (by kernel_rfl) (by kernel_rfl) (by kernel_rfl) ?hQ2 ?hy2 (by assumption) ?hrest2
      case hi2 => (simp only [List.getElem?_toArray, List.getElem?_cons_succ, List.getElem?_cons_zero]; try rfl)
      case hQ2 => exact fun _ _ _ h => h
      case hy2 =>
        refine Or.inl ⟨by rfl, ?_⟩
        (intro wq hSw; (try dsimp only at hSw); go_simp; try with_reducible rfl)
      (try simp only [Act.put, List.setIfInBounds_toArray, List.set_cons_zero, List.set_cons_succ])
      refine wpAnyH_take (i := 2) (oi := ?oi3) (v := ?v3) ?hi3 (by kernel_rfl) (by kernel_rfl) (by kernel_rfl) ?hQ3 ?hy3 (by assumption) ?hrest3
      case hi3 => (simp only [List.getElem?_toArray, List.getElem?_cons_succ, List.getElem?_cons_zero]; try rfl)
      case hQ3 => exact fun _ _ _ h => h
      case hy3 =>
        refine Or.inl ⟨by rfl, ?_⟩
        (intro wq hSw; (try dsimp only at hSw); go_simp; try with_reducible rfl)
      (try simp only [Act.put, List.setIfInBounds_toArray, List.set_cons_zero, List.set_cons_succ])
      refine wpAnyH_take (i := 3) (oi := ?oi4) (v := ?v4) ?hi4 (by kernel_rfl) (by kernel_rfl) (by kernel_rfl) ?hQ4 ?hy4 (by assumption) ?hrest4
      case hi4 => (simp only [List.getElem?_toArray, List.getElem?_cons_succ, List.getElem?_cons_zero]; try rfl)
      case hQ4 => exact fun _ _ _ h => h
      case hy4 =>
        refine Or.inl ⟨by rfl, ?_⟩
        (intro wq hSw; (try dsimp only at hSw); go_simp; try with_reducible rfl)
      (try simp only [Act.put, List.setIfInBounds_toArray, List.set_cons_zero, List.set_cons_succ])
      refine wpAnyH_take (i := 4) (oi := ?oi5) (v := ?v5) ?hi5 (by kernel_rfl) (by kernel_rfl) (by kernel_rfl) ?hQ5 ?hy5 (by assumption) ?hrest5
      case hi5 => (simp only [List.getElem?_toArray, List.getElem?_cons_succ, List.getElem?_cons_zero]; try rfl)
      case hQ5 => exact fun _ _ _ h => h
      case hy5 =>
        refine Or.inl ⟨by rfl, ?_⟩
        (intro wq hSw; (try dsimp only at hSw); go_simp; try with_reducible rfl)
      (try simp only [Act.put, List.setIfInBounds_toArray, List.set_cons_zero, List.set_cons_succ])
      refine wpAnyH_take (i := 5) (oi := ?oi6) (v := ?v6) ?hi6 (by kernel_rfl) (by kernel_rfl) (by kernel_rfl) ?hQ6 ?hy6 (by assumption) ?hrest6
      case hi6 => (simp only [List.getElem?_toArray, List.getElem?_cons_succ, List.getElem?_cons_zero]; try rfl)
      case hQ6 => exact fun _ _ _ h => h
      case hy6 =>
        refine Or.inl ⟨by rfl, ?_⟩
        (intro wq hSw; (try dsimp only at hSw); go_simp; try with_reducible rfl)
      (try simp only [Act.put, List.setIfInBounds_toArray, List.set_cons_zero, List.set_cons_succ])
      refine wpAnyH_take (i := 6) (oi := ?oi7) (v := ?v7) ?hi7 (by kernel_rfl) (by kernel_rfl) (by kernel_rfl) ?hQ7 ?hy7 (by assumption) ?hrest7
      case hi7 => (simp only [List.getElem?_toArray, List.getElem?_cons_succ, List.getElem?_cons_zero]; try rfl)
      case hQ7 => exact fun _ _ _ h => h
      case hy7 =>
        refine Or.inl ⟨by rfl, ?_⟩
        (intro wq hSw; (try dsimp only at hSw); go_simp; try with_reducible rfl)
      (try simp only [Act.put, List.setIfInBounds_toArray, List.set_cons_zero, List.set_cons_succ])
      refine wpAnyH_take (i := 7) (oi := ?oi8) (v := ?v8) ?hi8 (by kernel_rfl) (by kernel_rfl) (by kernel_rfl) ?hQ8 ?hy8 (by assumption) ?hrest8
      case hi8 => (simp only [List.getElem?_toArray, List.getElem?_cons_succ, List.getElem?_cons_zero]; try rfl)
      case hQ8 => exact fun _ _ _ h => h
      case hy8 =>
        refine Or.inl ⟨by rfl, ?_⟩
        (intro wq hSw; (try dsimp only at hSw); go_simp; try with_reducible rfl)
      (try simp only [Act.put, List.setIfInBounds_toArray, List.set_cons_zero, List.set_cons_succ])
      refine wpAnyH_take (i := 8) (oi := ?oi9) (v := ?v9) ?hi9 (by kernel_rfl) (by kernel_rfl) (by kernel_rfl) ?hQ9 ?hy9 (by assumption) ?hrest9
      case hi9 => (simp only [List.getElem?_toArray, List.getElem?_cons_succ, List.getElem?_cons_zero]; try rfl)
      case hQ9 => exact fun _ _ _ h => h
      case hy9 =>
        refine Or.inl ⟨by rfl, ?_⟩
        (intro wq hSw; (try dsimp only at hSw); go_simp; try with_reducible rfl)
      (try simp only [Act.put, List.setIfInBounds_toArray, List.set_cons_zero, List.set_cons_succ])
      refine wpAnyH_take (i := 9) (oi := ?oi10) (v := ?v10) ?hi10 (by kernel_rfl) (by kernel_rfl) (by kernel_rfl) ?hQ10 ?hy10 (by assumption) ?hrest10
      case hi10 => (simp only [List.getElem?_toArray, List.getElem?_cons_succ, List.getElem?_cons_zero]; try rfl)
      case hQ10 => exact fun _ _ _ h => h
      case hy10 =>
        refine Or.inl ⟨by rfl, ?_⟩
        (intro wq hSw; (try dsimp only at hSw); go_simp; try with_reducible rfl)
      (try simp only [Act.put, List.setIfInBounds_toArray, List.set_cons_zero, List.set_cons_succ])
      refine wpAnyH_take (i := 10) (oi := ?oi11) (v := ?v11) ?hi11 (by kernel_rfl) (by kernel_rfl) (by kernel_rfl) ?hQ11 ?hy11 (by assumption) ?hrest11
      case hi11 => (simp only [List.getElem?_toArray, List.getElem?_cons_succ, List.getElem?_cons_zero]; try rfl)
      case hQ11 => exact fun _ _ _ h => h
      case hy11 =>
        refine Or.inl ⟨by rfl, ?_⟩
        (intro wq hSw; (try dsimp only at hSw); go_simp; try with_reducible rfl)
      (try simp only [Act.put, List.setIfInBounds_toArray, List.set_cons_zero, List.set_cons_succ])
      refine wpAnyH_take (i := 11) (oi := ?oi12) (v := ?v12) ?hi12 (by kernel_rfl) (by kernel_rfl) (by kernel_rfl) ?hQ12 ?hy12 (by assumption) ?hrest12
      case hi12 => (simp only [List.getElem?_toArray, List.getElem?_cons_succ, List.getElem?_cons_zero]; try rfl)
      case hQ12 => exact fun _ _ _ h => h
      case hy12 =>
        refine Or.inl ⟨by rfl, ?_⟩
        (intro wq hSw; (try dsimp only at hSw); go_simp; try with_reducible rfl)
      (try simp only [Act.put, List.setIfInBounds_toArray, List.set_cons_zero, List.set_cons_succ])
      refine wpAnyH_take (i := 12) (oi := ?oi13) (v := ?v13) ?hi13 (by kernel_rfl) (by kernel_rfl) (by kernel_rfl) ?hQ13 ?hy13 (by assumption) ?hrest13
      case hi13 => (simp only [List.getElem?_toArray, List.getElem?_cons_succ, List.getElem?_cons_zero]; try rfl)
      case hQ13 => exact fun _ _ _ h => h
      case hy13 =>
        refine Or.inl ⟨by rfl, ?_⟩
        (intro wq hSw; (try dsimp only at hSw); go_simp; try with_reducible rfl)
      (try simp only [Act.put, List.setIfInBounds_toArray, List.set_cons_zero, List.set_cons_succ])
      refine wpAnyH_take (i := 13) (oi := ?oi14) (v := ?v14) ?hi14 (by kernel_rfl) (by kernel_rfl) (by kernel_rfl) ?hQ14 ?hy14 (by assumption) ?hrest14
      case hi14 => (simp only [List.getElem?_toArray, List.getElem?_cons_succ, List.getElem?_cons_zero]; try rfl)
      case hQ14 => exact fun _ _ _ h => h
      case hy14 =>
        refine Or.inl ⟨by rfl, ?_⟩
        (intro wq hSw; (try dsimp only at hSw); go_simp; try with_reducible rfl)
      (try simp only [Act.put, List.setIfInBounds_toArray, List.set_cons_zero, List.set_cons_succ])
      refine wpAnyH_take (i := 14) (oi := ?oi15) (v := ?v15) ?hi15 (by kernel_rfl) (by kernel_rfl) (by kernel_rfl) ?hQ15 ?hy15 (by assumption) ?hrest15
      case hi15 => (simp only [List.getElem?_toArray, List.getElem?_cons_succ, List.getElem?_cons_zero]; try rfl)
      case hQ15 => exact fun _ _ _ h => h
      case hy15 =>
        refine Or.inl ⟨by rfl, ?_⟩
        (intro wq hSw; (try dsimp only at hSw); go_simp; try with_reducible rfl)
      (try simp only [Act.put, List.setIfInBounds_toArray, List.set_cons_zero, List.set_cons_succ])
      refine wpAnyH_take (i := 15) (oi := ?oi16) (v := ?v16) ?hi16 (by kernel_rfl) (by kernel_rfl) (by kernel_rfl) ?hQ16 ?hy16 (by assumption) ?hrest16
      case hi16 => (simp only [List.getElem?_toArray, List.getElem?_cons_succ, List.getElem?_cons_zero]; try rfl)
      case hQ16 => exact fun _ _ _ h => h
      case hy16 =>
        refine Or.inl ⟨by rfl, ?_⟩
        (intro wq hSw; (try dsimp only at hSw); go_simp; try with_reducible rfl)
      (try simp only [Act.put, List.setIfInBounds_toArray, List.set_cons_zero, List.set_cons_succ])
      refine wpAnyH_take (i := 16) (oi := ?oi17) (v := ?v17) ?hi17 (by kernel_rfl) (by kernel_rfl) (by kernel_rfl) ?hQ17 ?hy17 (by assumption) ?hrest17
      case hi17 => (simp only [List.getElem?_toArray, List.getElem?_cons_succ, List.getElem?_cons_zero]; try rfl)
      case hQ17 => exact fun _ _ _ h => h
      case hy17 =>
        refine Or.inl ⟨by rfl, ?_⟩
        (intro wq hSw; (try dsimp only at hSw); go_simp; try with_reducible rfl)
      (try simp only [Act.put, List.setIfInBounds_toArray, List.set_cons_zero, List.set_cons_succ])
      refine wpAnyH_take (i := 17) (oi := ?oi18) (v := ?v18) ?hi18 (by kernel_rfl) (by kernel_rfl) (by kernel_rfl) ?hQ18 ?hy18 (by assumption) ?hrest18
      case hi18 => (simp only [List.getElem?_toArray, List.getElem?_cons_succ, List.getElem?_cons_zero]; try rfl)
      case hQ18 => exact fun _ _ _ h => h
      case hy18 =>
        refine Or.inl ⟨by rfl, ?_⟩
        (intro wq hSw; (try dsimp only at hSw); go_simp; try with_reducible rfl)
      (try simp only [Act.put, List.setIfInBounds_toArray, List.set_cons_zero, List.set_cons_succ])
      refine wpAnyH_take (i := 18) (oi := ?oi19) (v := ?v19) ?hi19 (by kernel_rfl) (by kernel_rfl) (by kernel_rfl) ?hQ19 ?hy19 (by assumption) ?hrest19
      case hi19 => (simp only [List.getElem?_toArray, List.getElem?_cons_succ, List.getElem?_cons_zero]; try rfl)
      case hQ19 => exact fun _ _ _ h => h
      case hy19 =>
        refine Or.inl ⟨by rfl, ?_⟩
        (intro wq hSw; (try dsimp only at hSw); go_simp; try with_reducible rfl)
      (try simp only [Act.put, List.setIfInBounds_toArray, List.set_cons_zero, List.set_cons_succ])
      refine wpAnyH_take (i := 19) (oi := ?oi20) (v := ?v20) ?hi20 (by kernel_rfl) (by kernel_rfl) (by kernel_rfl) ?hQ20 ?hy20 (by assumption) ?hrest20
      case hi20 => (simp only [List.getElem?_toArray, List.getElem?_cons_succ, List.getElem?_cons_zero]; try rfl)
      case hQ20 => exact fun _ _ _ h => h
      case hy20 =>
        refine Or.inl ⟨by rfl, ?_⟩
        (intro wq hSw; (try dsimp only at hSw); go_simp; try with_reducible rfl)
      (try simp only [Act.put, List.setIfInBounds_toArray, List.set_cons_zero, List.set_cons_succ])
      refine wpAnyH_take (i := 20) (oi := ?oi21) (v := ?v21) ?hi21 (by kernel_rfl) (by kernel_rfl) (by kernel_rfl) ?hQ21 ?hy21 (by assumption) ?hrest21
      case hi21 => (simp only [List.getElem?_toArray, List.getElem?_cons_succ, List.getElem?_cons_zero]; try rfl)
      case hQ21 => exact fun _ _ _ h => h
      case hy21 =>
        refine Or.inl ⟨by rfl, ?_⟩
        (intro wq hSw; (try dsimp only at hSw); go_simp; try with_reducible rfl)
      (try simp only [Act.put, List.setIfInBounds_toArray, List.set_cons_zero, List.set_cons_succ])
      refine wpAnyH_take (i := 21) (oi := ?oi22) (v := ?v22) ?hi22 (by kernel_rfl) (by kernel_rfl) (by kernel_rfl) ?hQ22 ?hy22 (by assumption) ?hrest22
      case hi22 => (simp only [List.getElem?_toArray, List.getElem?_cons_succ, List.getElem?_cons_zero]; try rfl)
      case hQ22 => exact fun _ _ _ h => h
      case hy22 =>
        refine Or.inl ⟨by rfl, ?_⟩
        (intro wq hSw; (try dsimp only at hSw); go_simp; try with_reducible rfl)
      (try simp only [Act.put, List.setIfInBounds_toArray, List.set_cons_zero, List.set_cons_succ])
      refine wpAnyH_take (i := 22) (oi := ?oi23) (v := ?v23) ?hi23 (by kernel_rfl) (by kernel_rfl) (by kernel_rfl) ?hQ23 ?hy23 (by assumption) ?hrest23
      case hi23 => (simp only [List.getElem?_toArray, List.getElem?_cons_succ, List.getElem?_cons_zero]; try rfl)
      case hQ23 => exact fun _ _ _ h => h
      case hy23 =>
        refine Or.inl ⟨by rfl, ?_⟩
        (intro wq hSw; (try dsimp only at hSw); go_simp; try with_reducible rfl)
      (try simp only [Act.put, List.setIfInBounds_toArray, List.set_cons_zero, List.set_cons_succ])
      refine wpAnyH_take (i := 23) (oi := ?oi24) (v := ?v24) ?hi24 (by kernel_rfl) (by kernel_rfl) (by kernel_rfl) ?hQ24 ?hy24 (by assumption) ?hrest24
      case hi24 => (simp only [List.getElem?_toArray, List.getElem?_cons_succ, List.getElem?_cons_zero]; try rfl)
      case hQ24 => exact fun _ _ _ h => h
      case hy24 =>
        refine Or.inl ⟨by rfl, ?_⟩
        (intro wq hSw; (try dsimp only at hSw); go_simp; try with_reducible rfl)
      (try simp only [Act.put, List.setIfInBounds_toArray, List.set_cons_zero, List.set_cons_succ])
      refine wpAnyH_take (i := 24) (oi := ?oi25) (v := ?v25) ?hi25 (by kernel_rfl) (by kernel_rfl) (by kernel_rfl) ?hQ25 ?hy25 (by assumption) ?hrest25
      case hi25 => (simp only [List.getElem?_toArray, List.getElem?_cons_succ, List.getElem?_cons_zero]; try rfl)
      case hQ25 => exact fun _ _ _ h => h
      case hy25 =>
        refine Or.inl ⟨by rfl, ?_⟩
        (intro wq hSw; (try dsimp only at hSw); go_simp; try with_reducible rfl)
      (try simp only [Act.put, List.setIfInBounds_toArray, List.set_cons_zero, List.set_cons_succ])
      refine wpAnyH_take (i := 25) (oi := ?oi26) (v := ?v26) ?hi26 (by kernel_rfl) (by kernel_rfl) (by kernel_rfl) ?hQ26 ?hy26 (by assumption) ?hrest26
      case hi26 => (simp only [List.getElem?_toArray, List.getElem?_cons_succ, List.getElem?_cons_zero]; try rfl)
      case hQ26 => exact fun _ _ _ h => h
      case hy26 =>
        refine Or.inl ⟨by rfl, ?_⟩
        (intro wq hSw; (try dsimp only at hSw); go_simp; try with_reducible rfl)
      (try simp only [Act.put, List.setIfInBounds_toArray, List.set_cons_zero, List.set_cons_succ])
      refine wpAnyH_take (i := 26) (oi := ?oi27) (v := ?v27) ?hi27 (by kernel_rfl) (by kernel_rfl) (by kernel_rfl) ?hQ27 ?hy27 (by assumption) ?hrest27
      case hi27 => (simp only [List.getElem?_toArray, List.getElem?_cons_succ, List.getElem?_cons_zero]; try rfl)
      case hQ27 => exact fun _ _ _ h => h
      case hy27 =>
        refine Or.inl ⟨by rfl, ?_⟩
        (intro wq hSw; (try dsimp only at hSw); go_simp; try with_reducible rfl)
      (try simp only [Act.put, List.setIfInBounds_toArray, List.set_cons_zero, List.set_cons_succ])
      refine wpAnyH_take (i := 27) (oi := ?oi28) (v := ?v28) ?hi28 (by kernel_rfl) (by kernel_rfl) (by kernel_rfl) ?hQ28 ?hy28 (by assumption) ?hrest28
      case hi28 => (simp only [List.getElem?_toArray, List.getElem?_cons_succ, List.getElem?_cons_zero]; try rfl)
      case hQ28 => exact fun _ _ _ h => h
      case hy28 =>
        refine Or.inl ⟨by rfl, ?_⟩
        (intro wq hSw; (try dsimp only at hSw); go_simp; try with_reducible rfl)
      (try simp only [Act.put, List.setIfInBounds_toArray, List.set_cons_zero, List.set_cons_succ])
      refine wpAnyH_take (i := 28) (oi := ?oi29) (v := ?v29) ?hi29 (by kernel_rfl) (by kernel_rfl) (by kernel_rfl) ?hQ29 ?hy29 (by assumption) ?hrest29
      case hi29 => (simp only [List.getElem?_toArray, List.getElem?_cons_succ, List.getElem?_cons_zero]; try rfl)
      case hQ29 => exact fun _ _ _ h => h
      case hy29 =>
        refine Or.inl ⟨by rfl, ?_⟩
        (intro wq hSw; (try dsimp only at hSw); go_simp; try with_reducible rfl)
      (try simp only [Act.put, List.setIfInBounds_toArray, List.set_cons_zero, List.set_cons_succ])
      refine wpAnyH_take (i := 29) (oi := ?oi30) (v := ?v30) ?hi30 (by kernel_rfl) (by kernel_rfl) (by kernel_rfl) ?hQ30 ?hy30 (by assumption) ?hrest30
      case hi30 => (simp only [List.getElem?_toArray, List.getElem?_cons_succ, List.getElem?_cons_zero]; try rfl)
      case hQ30 => exact fun _ _ _ h => h
      case hy30 =>
        refine Or.inl ⟨by rfl, ?_⟩
        (intro wq hSw; (try dsimp only at hSw); go_simp; try with_reducible rfl)
      (try simp only [Act.put, List.setIfInBounds_toArray, List.set_cons_zero, List.set_cons_succ])
      refine wpAnyH_done (by kernel_rfl) ?_ _
      refine NoPanic.normal ?_
      (skip)
      have b9 := below_step hb bcur
      go_wp2_with fail
      go_roundw
      case rel => exact ⟨k + 1, a4, by omega, by go_num, rfl, ha5, b9⟩
      case measure => simp [RowKit.intOf]; omega
    case false =>
      clear hgo
      obtain ⟨n0, hn0⟩ : ∃ x : Int, x = n := ⟨_, rfl⟩
      obtain ⟨k0, hk0⟩ : ∃ x : Nat, x = k := ⟨_, rfl⟩
      obtain ⟨w2, hw2⟩ : ∃ x : World, x = wc := ⟨_, rfl⟩
      rw [← hn0] at hn ⊢
      rw [← hk0] at hk ⊢
      rw [← hw2] at hb R C0 C1 ⊢
      clear hn0 hk0 hw2 C0
      go_wp2_with fail
      go_loopw [3, 5] (fun s i W => ∃ (k : Nat) (n : Int), k ≤ ts.length ∧ i = .int .i64 k ∧ s = .int .i64 n ∧ (0 ≤ n ∧ n ≤ 800010) ∧ Below w2.heap.size w2 W) (fun _ i _ => ts.length - (RowKit.intOf i).toNat)
      case atStart => exact ⟨0, n0, by omega, rfl, rfl, hn, Below.refl _ _⟩
      case round =>
        clear hn hk
        obtain ⟨k, n, hk, rfl, hs, hn, hb2⟩ := hrel
        subst hs
        have R2 := R.below hb2
        have b02 := below_step hb hb2
        clear R C1
        have C1 := (R2.2 1 _ rfl).1
        have R := hid R2
        clear R2
        go_upto_region 7 with fail
        go_cut [54] (fun s54 wx => (∃ q : Bool, s54 = .bool q ∧ (q = true → k < ts.length ∧ n < 200000)) ∧ wx = wr)
        case first =>
          by_cases h1 : (k : Int) < ts.length
          · have j1 : decide ((k : Int) < ts.length) = true := decide_eq_true h1
            obtain ⟨q, j2⟩ : ∃ q, decide (n < 200000) = q := ⟨_, rfl⟩
            have hq := hid (show q = true → k < ts.length ∧ n < 200000 from fun hh => ⟨by omega, by rw [hh] at j2; exact of_decide_eq_true j2⟩)
            go_wp2_with fail
            go_meet
            exact ⟨⟨q, rfl, hq.out⟩, rfl⟩
          · have j1 : decide ((k : Int) < ts.length) = false := decide_eq_false h1
            go_wp2_with fail
            go_meet
            exact ⟨⟨false, rfl, fun hh => by cases hh⟩, rfl⟩
        case rest =>
        obtain ⟨⟨q, rfl, hgo⟩, rfl⟩ := hcut
        cases q
        case true =>

          obtain ⟨hlt, hn2⟩ := hgo rfl
          clear hgo
          have hE := (h.out.t.below b0).below b02
          obtain ⟨ad, rfl, x0⟩ := tx_at hE k hlt
          generalize ts[k] = x at x0
          obtain ⟨A, c, l⟩ := x
          unfold SlR.val at x0
          dsimp only at x0
          obtain ⟨m1, hm1, e1, e1', e1''⟩ := min_is l.length
          obtain ⟨a1, ha1⟩ : ∃ a, a = n + 1 := ⟨_, rfl⟩
          obtain ⟨a2, ha2⟩ : ∃ a, a = a1 + m1 := ⟨_, rfl⟩
          have f1 : IntKind.i64.wrap (n + 1) = a1 := by rw [ha1]; exact wrap_of _ (by omega) (by omega)
          have f2 : IntKind.i64.wrap (a1 + m1) = a2 := by rw [ha2]; exact wrap_of _ (by omega) (by omega)
          have ha5 : 0 ≤ a2 ∧ a2 ≤ 800010 := by omega
          replace ha1 := hid ha1
          replace ha2 := hid ha2
          have i0 : (0 : Int) ≤ k := by omega
          have i1 : (k : Int) < ts.length := by omega
          clear hE
          go_wp2_with fail
          go_roundw
          case rel => exact ⟨k + 1, a2, by omega, by go_num, rfl, ha5, hb2⟩
          case measure => simp [RowKit.intOf]; omega
        case false =>
          clear hgo
          have b9 := below_step b0 b02
          go_wp2_with fail
          go_ret
          exact ⟨_, rfl, b9⟩
end Go.Proofs.YtnkocbdbfkhgmaaDoor
