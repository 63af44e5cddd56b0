import Derived.Test.YtahehikpbhneeaaWireN
import Derived.Test.YtahehikpbhneeaaTurn
import Derived.Test.YtahehikpbhneeaaWireQ
import Derived.Deep.DeepCutAuto
namespace Go.Proofs.Ytahehikpbhneeaa
open Go.RowKit Go.Cov
set_option maxRecDepth 100000 in
set_option maxHeartbeats 6400000 in
theorem order_law {A B : Option Addr} {c d : Nat} {x z : List UInt8} {w : World} (hx : Rd w A (x.map byt)) (hcx : x.length ≤ c) (hlx : x.length ≤ 140737488351236) (hz : Rd w B (z.map byt)) (a b : Int)
    (ha : -9223372036854775808 ≤ a ∧ a < 9223372036854775808) (hb : -9223372036854775808 ≤ b ∧ b < 9223372036854775808) :
    Calls Try.prog 5 #[.int .i64 a, .int .i64 b, .slice A x.length c, .slice B z.length d] w fun e w' => e = .returned (.bool true) ∧ Below w.heap.size w w' := by
  have hless : 0 ≤ a → 0 ≤ b → Op.bytesLess (str (be 8 a)).toList (str (be 8 b)).toList = decide (a < b) := fun h1 h2 => by
    rw [toList_str, toList_str]
    exact be8_less a b h1 h2 ha.2 hb.2
  have Hless := hid hless
  have k1 := fun W (hW : Rd W A (x.map byt)) => num_any hW hcx hlx 0
  have k2 := fun A' c' W n (hn : (x ++ z).length = n) (hW : Rd W A' ((x ++ z).map byt)) (hc : n ≤ c') (hl : n ≤ 140737488351236) => num_n n hn hW hc hl 0
  have k3 := fun W (hW : Rd W A (x.map byt)) => bytes_any hW hcx hlx 0
  have k4 := fun A' c' W n (hn : (x ++ z).length = n) (hW : Rd W A' ((x ++ z).map byt)) (hc : n ≤ c') (hl : n ≤ 140737488351236) => bytes_n n hn hW hc hl 0
  have k5 := fun W (hW : Rd W A (x.map byt)) => row_any hW hcx hlx 0
  have k6 := fun A' c' W n (hn : (x ++ z).length = n) (hW : Rd W A' ((x ++ z).map byt)) (hc : n ≤ c') (hl : n ≤ 140737488351236) => row_n n hn hW hc hl 0
  have f1 : (getR x 0 8).2.2 ≠ 0 ∨ getR (x ++ z) 0 8 = getR x 0 8 := by
    by_cases h : (getR x 0 8).2.2 = 0
    · exact .inr (getR_app h)
    · exact .inl h
  have f2 : (bytesR x 0).2.2 ≠ 0 ∨ bytesR (x ++ z) 0 = bytesR x 0 := by
    by_cases h : (bytesR x 0).2.2 = 0
    · exact .inr (bytesR_app h)
    · exact .inl h
  have f3 : (rowR x 0).2.2 ≠ 0 ∨ rowR (x ++ z) 0 = rowR x 0 := by
    by_cases h : (rowR x 0).2.2 = 0
    · exact .inr (rowR_app h)
    · exact .inl h
  have l3 := rowR_len x 0
  revert k1 k2 k3 k4 k5 k6 f1 f2 f3 l3
  generalize getR x 0 8 = g1
  generalize getR (x ++ z) 0 8 = g2
  generalize bytesR x 0 = g3
  generalize bytesR (x ++ z) 0 = g4
  generalize rowR x 0 = g5
  generalize rowR (x ++ z) 0 = g6
  obtain ⟨n1, p1, e1⟩ := g1
  obtain ⟨n2, p2, e2⟩ := g2
  obtain ⟨t1, q1, d1⟩ := g3
  obtain ⟨t2, q2, d2⟩ := g4
  obtain ⟨r1, s1, c1⟩ := g5
  obtain ⟨r2, s2, c2⟩ := g6
  dsimp only
  intro k1 k2 k3 k4 k5 k6 f1 f2 f3 l3
  have K1 := hid k1
  have K2 := hid k2
  have K3 := hid k3
  have K4 := hid k4
  have K5 := hid k5
  have K6 := hid k6
  have F1 := hid f1
  have F2 := hid f2
  have F3 := hid f3
  clear k1 k2 k3 k4 k5 k6 f1 f2 f3 hless
  obtain ⟨ha1, ha2⟩ := ha
  obtain ⟨hb1', hb2'⟩ := hb
  go_enter Try.func5, Try.ntmps5
  go_wp2_with fail
  refine (head_any w).mono ?_
  rintro e w1 ⟨rfl, hb1⟩
  go_upto_region 2 with fail
  go_cut [40] (fun s40 wx => s40 = .bool false ∧ Below w1.heap.size w1 wx)
  case first =>
    by_cases h1 : 0 ≤ a
    · by_cases h2 : 0 ≤ b
      · have hl := Hless.out h1 h2
        by_cases h3 : a < b
        · rw [decide_eq_true h3] at hl
          refine wp_region_noPanic ?_
          refine wp_region_held_drew (S := (fun W => Below w1.heap.size w1 W)) (by kernel_rfl) ?_ (fun hHeld => ?_)
          · exact (Below.refl _ _).drew
          refine wpAnyH_take (i := 0) (oi := ?oi1) (v := ?v1) ?hi1 (by kernel_rfl) (by kernel_rfl) (by kernel_rfl) ?hQ1 ?hy1 (by assumption) ?hrest1
          case hi1 => (simp only [List.getElem?_toArray, List.getElem?_cons_zero]; try rfl)
          case hQ1 => exact fun _ _ _ h => h
          case hy1 =>
            refine Or.inl ⟨by rfl, ?_⟩
            (intro wq hSw; (try dsimp only at hSw); go_simp; try with_reducible rfl)
          (try simp only [Act.put, List.setIfInBounds_toArray, List.set_cons_zero, List.set_cons_succ])
          refine wpAnyH_take (i := 1) (oi := ?oi2) (v := ?v2) ?hi2 (by kernel_rfl) (by kernel_rfl) (by kernel_rfl) ?hQ2 ?hy2 (by assumption) ?hrest2
          case hi2 => (simp only [List.getElem?_toArray, List.getElem?_cons_succ, List.getElem?_cons_zero]; try rfl)
          case hQ2 => exact fun _ _ _ h => h
          case hy2 =>
            refine Or.inl ⟨by rfl, ?_⟩
            (intro wq hSw; (try dsimp only at hSw); go_simp; try with_reducible rfl)
          (try simp only [Act.put, List.setIfInBounds_toArray, List.set_cons_zero, List.set_cons_succ])
          refine wpAnyH_take (i := 2) (oi := ?oi3) (v := ?v3) ?hi3 (by kernel_rfl) (by kernel_rfl) (by kernel_rfl) ?hQ3 ?hy3 (by assumption) ?hrest3
          case hi3 => (simp only [List.getElem?_toArray, List.getElem?_cons_succ, List.getElem?_cons_zero]; try rfl)
          case hQ3 => exact fun _ _ _ h => h
          case hy3 =>
            refine Or.inl ⟨by rfl, ?_⟩
            (intro wq hSw; (try dsimp only at hSw); go_simp; try with_reducible rfl)
          (try simp only [Act.put, List.setIfInBounds_toArray, List.set_cons_zero, List.set_cons_succ])
          refine wpAnyH_take (i := 3) (oi := ?oi4) (v := ?v4) ?hi4 (by kernel_rfl) (by kernel_rfl) (by kernel_rfl) ?hQ4 ?hy4 (by assumption) ?hrest4
          case hi4 => (simp only [List.getElem?_toArray, List.getElem?_cons_succ, List.getElem?_cons_zero]; try rfl)
          case hQ4 => exact fun _ _ _ h => h
          case hy4 =>
            refine Or.inl ⟨by rfl, ?_⟩
            (intro wq hSw; (try dsimp only at hSw); go_simp; try with_reducible rfl)
          (try simp only [Act.put, List.setIfInBounds_toArray, List.set_cons_zero, List.set_cons_succ])
          refine wpAnyH_take (i := 4) (oi := ?oi5) (v := ?v5) ?hi5 (by kernel_rfl) (by kernel_rfl) (by kernel_rfl) ?hQ5 ?hy5 (by assumption) ?hrest5
          case hi5 => (simp only [List.getElem?_toArray, List.getElem?_cons_succ, List.getElem?_cons_zero]; try rfl)
          case hQ5 => exact fun _ _ _ h => h
          case hy5 =>
            refine Or.inl ⟨by rfl, ?_⟩
            (intro wq hSw; (try dsimp only at hSw); go_simp; try with_reducible rfl)
          (try simp only [Act.put, List.setIfInBounds_toArray, List.set_cons_zero, List.set_cons_succ])
          refine wpAnyH_take (i := 5) (oi := ?oi6) (v := ?v6) ?hi6 (by kernel_rfl) (by kernel_rfl) (by kernel_rfl) ?hQ6 ?hy6 (by assumption) ?hrest6
          case hi6 => (simp only [List.getElem?_toArray, List.getElem?_cons_succ, List.getElem?_cons_zero]; try rfl)
          case hQ6 => exact fun _ _ _ h => h
          case hy6 =>
            refine Or.inl ⟨by rfl, ?_⟩
            (intro wq hSw; (try dsimp only at hSw); go_simp; try with_reducible rfl)
          (try simp only [Act.put, List.setIfInBounds_toArray, List.set_cons_zero, List.set_cons_succ])
          refine wpAnyH_take (i := 6) (oi := ?oi7) (v := ?v7) ?hi7 (by kernel_rfl) (by kernel_rfl) (by kernel_rfl) ?hQ7 ?hy7 (by assumption) ?hrest7
          case hi7 => (simp only [List.getElem?_toArray, List.getElem?_cons_succ, List.getElem?_cons_zero]; try rfl)
          case hQ7 => exact fun _ _ _ h => h
          case hy7 =>
            refine Or.inl ⟨by rfl, ?_⟩
            (intro wq hSw; (try dsimp only at hSw); go_simp; try with_reducible rfl)
          (try simp only [Act.put, List.setIfInBounds_toArray, List.set_cons_zero, List.set_cons_succ])
          refine wpAnyH_take (i := 7) (oi := ?oi8) (v := ?v8) ?hi8 (by kernel_rfl) (by kernel_rfl) (by kernel_rfl) ?hQ8 ?hy8 (by assumption) ?hrest8
          case hi8 => (simp only [List.getElem?_toArray, List.getElem?_cons_succ, List.getElem?_cons_zero]; try rfl)
          case hQ8 => exact fun _ _ _ h => h
          case hy8 =>
            refine Or.inl ⟨by rfl, ?_⟩
            (intro wq hSw; (try dsimp only at hSw); go_simp; try with_reducible rfl)
          (try simp only [Act.put, List.setIfInBounds_toArray, List.set_cons_zero, List.set_cons_succ])
          refine wpAnyH_take (i := 10) (oi := ?oi9) (v := ?v9) ?hi9 (by kernel_rfl) (by kernel_rfl) (by kernel_rfl) ?hQ9 ?hy9 (by assumption) ?hrest9
          case hi9 => (simp only [List.getElem?_toArray, List.getElem?_cons_succ, List.getElem?_cons_zero]; try rfl)
          case hQ9 => exact fun _ _ _ h => h
          case hy9 =>
            refine Or.inl ⟨by rfl, ?_⟩
            (intro wq hSw; (try dsimp only at hSw); go_simp; try with_reducible rfl)
          (try simp only [Act.put, List.setIfInBounds_toArray, List.set_cons_zero, List.set_cons_succ])
          refine wpAnyH_take (i := 14) (oi := ?oi10) (v := ?v10) ?hi10 (by kernel_rfl) (by kernel_rfl) (by kernel_rfl) ?hQ10 ?hy10 (by assumption) ?hrest10
          case hi10 => (simp only [List.getElem?_toArray, List.getElem?_cons_succ, List.getElem?_cons_zero]; try rfl)
          case hQ10 => exact fun _ _ _ h => h
          case hy10 =>
            refine Or.inl ⟨by rfl, ?_⟩
            (intro wq hSw; (try dsimp only at hSw); go_simp; try with_reducible rfl)
          (try simp only [Act.put, List.setIfInBounds_toArray, List.set_cons_zero, List.set_cons_succ])
          refine wpAnyH_take (i := 15) (oi := ?oi11) (v := ?v11) ?hi11 (by kernel_rfl) (by kernel_rfl) (by kernel_rfl) ?hQ11 ?hy11 (by assumption) ?hrest11
          case hi11 => (simp only [List.getElem?_toArray, List.getElem?_cons_succ, List.getElem?_cons_zero]; try rfl)
          case hQ11 => exact fun _ _ _ h => h
          case hy11 =>
            refine Or.inl ⟨by rfl, ?_⟩
            (intro wq hSw; (try dsimp only at hSw); go_simp; try with_reducible rfl)
          (try simp only [Act.put, List.setIfInBounds_toArray, List.set_cons_zero, List.set_cons_succ])
          refine wpAnyH_take (i := 16) (oi := ?oi12) (v := ?v12) ?hi12 (by kernel_rfl) (by kernel_rfl) (by kernel_rfl) ?hQ12 ?hy12 (by assumption) ?hrest12
          case hi12 => (simp only [List.getElem?_toArray, List.getElem?_cons_succ, List.getElem?_cons_zero]; try rfl)
          case hQ12 => exact fun _ _ _ h => h
          case hy12 =>
            refine Or.inl ⟨by rfl, ?_⟩
            (intro wq hSw; (try dsimp only at hSw); go_simp; try with_reducible rfl)
          (try simp only [Act.put, List.setIfInBounds_toArray, List.set_cons_zero, List.set_cons_succ])
          refine wpAnyH_ready (rs := [8]) (by kernel_rfl) (by simp) ?_
          refine AllReadyH.cons (o := ?oi13) ?hi13 (fun K hK => ?hstep13) AllReadyH.nil
          case hi13 => (simp only [List.getElem?_toArray, List.getElem?_cons_succ, List.getElem?_cons_zero]; try rfl)
          go_simp
          (refine (putnum_any a _).mono ?_; rintro e wx ⟨vx, rfl, ownx, hbx⟩; obtain ⟨Ax, cx, hvx, _⟩ := own_shape ownx; subst hvx; have rx := own_rd ownx; have cq := fun W (hW : Below wx.heap.size wx W) => conv_bn (P := Try.prog) Try.underlying22 Try.underlying5 Try.underlying9 (rx.below hW) 8 cx (be_length 8 a))
          obtain _ := id hHeld
          refine hK.out _ _ ?_ (fun hHeldx => ?_)
          · (try dsimp only)
            (repeat' apply And.intro) <;> (first | assumption | exact below_step (by assumption) hbx)
          clear hK K
          (try simp only [Act.put, List.setIfInBounds_toArray, List.set_cons_zero, List.set_cons_succ])
          refine wpAnyH_turn hHeldx (fun hHeld => ?_)
          refine wpAnyH_take (i := 9) (oi := ?oi14) (v := ?v14) ?hi14 (by kernel_rfl) (by kernel_rfl) (by kernel_rfl) ?hQ14 ?hy14 (by assumption) ?hrest14
          case hi14 => (simp only [List.getElem?_toArray, List.getElem?_cons_succ, List.getElem?_cons_zero]; try rfl)
          case hQ14 => exact fun _ _ _ h => h
          case hy14 =>
            refine Or.inl ⟨by rfl, ?_⟩
            (intro wq hSw; (try dsimp only at hSw); go_simp; try with_reducible rfl)
          (try simp only [Act.put, List.setIfInBounds_toArray, List.set_cons_zero, List.set_cons_succ])
          refine wpAnyH_ready (rs := [11]) (by kernel_rfl) (by simp) ?_
          refine AllReadyH.cons (o := ?oi15) ?hi15 (fun K hK => ?hstep15) AllReadyH.nil
          case hi15 => (simp only [List.getElem?_toArray, List.getElem?_cons_succ, List.getElem?_cons_zero]; try rfl)
          go_simp
          (refine (putnum_any b _).mono ?_; rintro e wx ⟨vx, rfl, ownx, hbx⟩; obtain ⟨Ax, cx, hvx, _⟩ := own_shape ownx; subst hvx; have rx := own_rd ownx; have cq := fun W (hW : Below wx.heap.size wx W) => conv_bn (P := Try.prog) Try.underlying22 Try.underlying5 Try.underlying9 (rx.below hW) 8 cx (be_length 8 b))
          obtain ⟨_, _⟩ := id hHeld
          refine hK.out _ _ ?_ (fun hHeldx => ?_)
          · (try dsimp only)
            (repeat' apply And.intro) <;> (first | assumption | exact below_step (by assumption) hbx)
          clear hK K
          (try simp only [Act.put, List.setIfInBounds_toArray, List.set_cons_zero, List.set_cons_succ])
          refine wpAnyH_turn hHeldx (fun hHeld => ?_)
          refine wpAnyH_take (i := 12) (oi := ?oi16) (v := ?v16) ?hi16 (by kernel_rfl) (by kernel_rfl) (by kernel_rfl) ?hQ16 ?hy16 (by assumption) ?hrest16
          case hi16 => (simp only [List.getElem?_toArray, List.getElem?_cons_succ, List.getElem?_cons_zero]; try rfl)
          case hQ16 => exact fun _ _ _ h => h
          case hy16 =>
            refine Or.inl ⟨by rfl, ?_⟩
            (intro wq hSw; (try dsimp only at hSw); go_simp; try with_reducible rfl)
          (try simp only [Act.put, List.setIfInBounds_toArray, List.set_cons_zero, List.set_cons_succ])
          refine wpAnyH_take (i := 13) (oi := ?oi17) (v := ?v17) ?hi17 (by kernel_rfl) (by kernel_rfl) (by kernel_rfl) ?hQ17 ?hy17 (by assumption) ?hrest17
          case hi17 => (simp only [List.getElem?_toArray, List.getElem?_cons_succ, List.getElem?_cons_zero]; try rfl)
          case hQ17 => exact fun _ _ _ h => h
          case hy17 =>
            refine Or.inl ⟨by rfl, ?_⟩
            (intro wq hSw; (try dsimp only at hSw); go_simp; try with_reducible rfl)
          (try simp only [Act.put, List.setIfInBounds_toArray, List.set_cons_zero, List.set_cons_succ])
          refine wpAnyH_take (i := 17) (oi := ?oi18) (v := ?v18) ?hi18 (by kernel_rfl) (by kernel_rfl) (by kernel_rfl) ?hQ18 ?hy18 (by assumption) ?hrest18
          case hi18 => (simp only [List.getElem?_toArray, List.getElem?_cons_succ, List.getElem?_cons_zero]; try rfl)
          case hQ18 => exact fun _ _ _ h => h
          case hy18 =>
            refine Or.inl ⟨by rfl, ?_⟩
            (intro wq hSw; (try dsimp only at hSw); go_simp; try with_reducible rfl)
          (try simp only [Act.put, List.setIfInBounds_toArray, List.set_cons_zero, List.set_cons_succ])
          refine wpAnyH_take (i := 18) (oi := ?oi19) (v := ?v19) ?hi19 (by kernel_rfl) (by kernel_rfl) (by kernel_rfl) ?hQ19 ?hy19 (by assumption) ?hrest19
          case hi19 => (simp only [List.getElem?_toArray, List.getElem?_cons_succ, List.getElem?_cons_zero]; try rfl)
          case hQ19 => exact fun _ _ _ h => h
          case hy19 =>
            refine Or.inl ⟨by rfl, ?_⟩
            (intro wq hSw; (try dsimp only at hSw); go_simp; try with_reducible rfl)
          (try simp only [Act.put, List.setIfInBounds_toArray, List.set_cons_zero, List.set_cons_succ])
          refine wpAnyH_done (by kernel_rfl) ?_ _
          refine NoPanic.normal ?_
          go_wp2_with fail
          obtain ⟨⟨hh, _⟩, _⟩ := hHeld
          go_meet
          exact ⟨rfl, hh⟩
        · rw [decide_eq_false h3] at hl
          refine wp_region_noPanic ?_
          refine wp_region_held_drew (S := (fun W => Below w1.heap.size w1 W)) (by kernel_rfl) ?_ (fun hHeld => ?_)
          · exact (Below.refl _ _).drew
          refine wpAnyH_take (i := 0) (oi := ?oi20) (v := ?v20) ?hi20 (by kernel_rfl) (by kernel_rfl) (by kernel_rfl) ?hQ20 ?hy20 (by assumption) ?hrest20
          case hi20 => (simp only [List.getElem?_toArray, List.getElem?_cons_zero]; try rfl)
          case hQ20 => exact fun _ _ _ h => h
          case hy20 =>
            refine Or.inl ⟨by rfl, ?_⟩
            (intro wq hSw; (try dsimp only at hSw); go_simp; try with_reducible rfl)
          (try simp only [Act.put, List.setIfInBounds_toArray, List.set_cons_zero, List.set_cons_succ])
          refine wpAnyH_take (i := 1) (oi := ?oi21) (v := ?v21) ?hi21 (by kernel_rfl) (by kernel_rfl) (by kernel_rfl) ?hQ21 ?hy21 (by assumption) ?hrest21
          case hi21 => (simp only [List.getElem?_toArray, List.getElem?_cons_succ, List.getElem?_cons_zero]; try rfl)
          case hQ21 => exact fun _ _ _ h => h
          case hy21 =>
            refine Or.inl ⟨by rfl, ?_⟩
            (intro wq hSw; (try dsimp only at hSw); go_simp; try with_reducible rfl)
          (try simp only [Act.put, List.setIfInBounds_toArray, List.set_cons_zero, List.set_cons_succ])
          refine wpAnyH_take (i := 2) (oi := ?oi22) (v := ?v22) ?hi22 (by kernel_rfl) (by kernel_rfl) (by kernel_rfl) ?hQ22 ?hy22 (by assumption) ?hrest22
          case hi22 => (simp only [List.getElem?_toArray, List.getElem?_cons_succ, List.getElem?_cons_zero]; try rfl)
          case hQ22 => exact fun _ _ _ h => h
          case hy22 =>
            refine Or.inl ⟨by rfl, ?_⟩
            (intro wq hSw; (try dsimp only at hSw); go_simp; try with_reducible rfl)
          (try simp only [Act.put, List.setIfInBounds_toArray, List.set_cons_zero, List.set_cons_succ])
          refine wpAnyH_take (i := 3) (oi := ?oi23) (v := ?v23) ?hi23 (by kernel_rfl) (by kernel_rfl) (by kernel_rfl) ?hQ23 ?hy23 (by assumption) ?hrest23
          case hi23 => (simp only [List.getElem?_toArray, List.getElem?_cons_succ, List.getElem?_cons_zero]; try rfl)
          case hQ23 => exact fun _ _ _ h => h
          case hy23 =>
            refine Or.inl ⟨by rfl, ?_⟩
            (intro wq hSw; (try dsimp only at hSw); go_simp; try with_reducible rfl)
          (try simp only [Act.put, List.setIfInBounds_toArray, List.set_cons_zero, List.set_cons_succ])
          refine wpAnyH_take (i := 4) (oi := ?oi24) (v := ?v24) ?hi24 (by kernel_rfl) (by kernel_rfl) (by kernel_rfl) ?hQ24 ?hy24 (by assumption) ?hrest24
          case hi24 => (simp only [List.getElem?_toArray, List.getElem?_cons_succ, List.getElem?_cons_zero]; try rfl)
          case hQ24 => exact fun _ _ _ h => h
          case hy24 =>
            refine Or.inl ⟨by rfl, ?_⟩
            (intro wq hSw; (try dsimp only at hSw); go_simp; try with_reducible rfl)
          (try simp only [Act.put, List.setIfInBounds_toArray, List.set_cons_zero, List.set_cons_succ])
          refine wpAnyH_take (i := 5) (oi := ?oi25) (v := ?v25) ?hi25 (by kernel_rfl) (by kernel_rfl) (by kernel_rfl) ?hQ25 ?hy25 (by assumption) ?hrest25
          case hi25 => (simp only [List.getElem?_toArray, List.getElem?_cons_succ, List.getElem?_cons_zero]; try rfl)
          case hQ25 => exact fun _ _ _ h => h
          case hy25 =>
            refine Or.inl ⟨by rfl, ?_⟩
            (intro wq hSw; (try dsimp only at hSw); go_simp; try with_reducible rfl)
          (try simp only [Act.put, List.setIfInBounds_toArray, List.set_cons_zero, List.set_cons_succ])
          refine wpAnyH_take (i := 6) (oi := ?oi26) (v := ?v26) ?hi26 (by kernel_rfl) (by kernel_rfl) (by kernel_rfl) ?hQ26 ?hy26 (by assumption) ?hrest26
          case hi26 => (simp only [List.getElem?_toArray, List.getElem?_cons_succ, List.getElem?_cons_zero]; try rfl)
          case hQ26 => exact fun _ _ _ h => h
          case hy26 =>
            refine Or.inl ⟨by rfl, ?_⟩
            (intro wq hSw; (try dsimp only at hSw); go_simp; try with_reducible rfl)
          (try simp only [Act.put, List.setIfInBounds_toArray, List.set_cons_zero, List.set_cons_succ])
          refine wpAnyH_take (i := 7) (oi := ?oi27) (v := ?v27) ?hi27 (by kernel_rfl) (by kernel_rfl) (by kernel_rfl) ?hQ27 ?hy27 (by assumption) ?hrest27
          case hi27 => (simp only [List.getElem?_toArray, List.getElem?_cons_succ, List.getElem?_cons_zero]; try rfl)
          case hQ27 => exact fun _ _ _ h => h
          case hy27 =>
            refine Or.inl ⟨by rfl, ?_⟩
            (intro wq hSw; (try dsimp only at hSw); go_simp; try with_reducible rfl)
          (try simp only [Act.put, List.setIfInBounds_toArray, List.set_cons_zero, List.set_cons_succ])
          refine wpAnyH_take (i := 10) (oi := ?oi28) (v := ?v28) ?hi28 (by kernel_rfl) (by kernel_rfl) (by kernel_rfl) ?hQ28 ?hy28 (by assumption) ?hrest28
          case hi28 => (simp only [List.getElem?_toArray, List.getElem?_cons_succ, List.getElem?_cons_zero]; try rfl)
          case hQ28 => exact fun _ _ _ h => h
          case hy28 =>
            refine Or.inl ⟨by rfl, ?_⟩
            (intro wq hSw; (try dsimp only at hSw); go_simp; try with_reducible rfl)
          (try simp only [Act.put, List.setIfInBounds_toArray, List.set_cons_zero, List.set_cons_succ])
          refine wpAnyH_take (i := 14) (oi := ?oi29) (v := ?v29) ?hi29 (by kernel_rfl) (by kernel_rfl) (by kernel_rfl) ?hQ29 ?hy29 (by assumption) ?hrest29
          case hi29 => (simp only [List.getElem?_toArray, List.getElem?_cons_succ, List.getElem?_cons_zero]; try rfl)
          case hQ29 => exact fun _ _ _ h => h
          case hy29 =>
            refine Or.inl ⟨by rfl, ?_⟩
            (intro wq hSw; (try dsimp only at hSw); go_simp; try with_reducible rfl)
          (try simp only [Act.put, List.setIfInBounds_toArray, List.set_cons_zero, List.set_cons_succ])
          refine wpAnyH_take (i := 15) (oi := ?oi30) (v := ?v30) ?hi30 (by kernel_rfl) (by kernel_rfl) (by kernel_rfl) ?hQ30 ?hy30 (by assumption) ?hrest30
          case hi30 => (simp only [List.getElem?_toArray, List.getElem?_cons_succ, List.getElem?_cons_zero]; try rfl)
          case hQ30 => exact fun _ _ _ h => h
          case hy30 =>
            refine Or.inl ⟨by rfl, ?_⟩
            (intro wq hSw; (try dsimp only at hSw); go_simp; try with_reducible rfl)
          (try simp only [Act.put, List.setIfInBounds_toArray, List.set_cons_zero, List.set_cons_succ])
          refine wpAnyH_take (i := 16) (oi := ?oi31) (v := ?v31) ?hi31 (by kernel_rfl) (by kernel_rfl) (by kernel_rfl) ?hQ31 ?hy31 (by assumption) ?hrest31
          case hi31 => (simp only [List.getElem?_toArray, List.getElem?_cons_succ, List.getElem?_cons_zero]; try rfl)
          case hQ31 => exact fun _ _ _ h => h
          case hy31 =>
            refine Or.inl ⟨by rfl, ?_⟩
            (intro wq hSw; (try dsimp only at hSw); go_simp; try with_reducible rfl)
          (try simp only [Act.put, List.setIfInBounds_toArray, List.set_cons_zero, List.set_cons_succ])
          refine wpAnyH_ready (rs := [8]) (by kernel_rfl) (by simp) ?_
          refine AllReadyH.cons (o := ?oi32) ?hi32 (fun K hK => ?hstep32) AllReadyH.nil
          case hi32 => (simp only [List.getElem?_toArray, List.getElem?_cons_succ, List.getElem?_cons_zero]; try rfl)
          go_simp
          (refine (putnum_any a _).mono ?_; rintro e wx ⟨vx, rfl, ownx, hbx⟩; obtain ⟨Ax, cx, hvx, _⟩ := own_shape ownx; subst hvx; have rx := own_rd ownx; have cq := fun W (hW : Below wx.heap.size wx W) => conv_bn (P := Try.prog) Try.underlying22 Try.underlying5 Try.underlying9 (rx.below hW) 8 cx (be_length 8 a))
          obtain _ := id hHeld
          refine hK.out _ _ ?_ (fun hHeldx => ?_)
          · (try dsimp only)
            (repeat' apply And.intro) <;> (first | assumption | exact below_step (by assumption) hbx)
          clear hK K
          (try simp only [Act.put, List.setIfInBounds_toArray, List.set_cons_zero, List.set_cons_succ])
          refine wpAnyH_turn hHeldx (fun hHeld => ?_)
          refine wpAnyH_take (i := 9) (oi := ?oi33) (v := ?v33) ?hi33 (by kernel_rfl) (by kernel_rfl) (by kernel_rfl) ?hQ33 ?hy33 (by assumption) ?hrest33
          case hi33 => (simp only [List.getElem?_toArray, List.getElem?_cons_succ, List.getElem?_cons_zero]; try rfl)
          case hQ33 => exact fun _ _ _ h => h
          case hy33 =>
            refine Or.inl ⟨by rfl, ?_⟩
            (intro wq hSw; (try dsimp only at hSw); go_simp; try with_reducible rfl)
          (try simp only [Act.put, List.setIfInBounds_toArray, List.set_cons_zero, List.set_cons_succ])
          refine wpAnyH_ready (rs := [11]) (by kernel_rfl) (by simp) ?_
          refine AllReadyH.cons (o := ?oi34) ?hi34 (fun K hK => ?hstep34) AllReadyH.nil
          case hi34 => (simp only [List.getElem?_toArray, List.getElem?_cons_succ, List.getElem?_cons_zero]; try rfl)
          go_simp
          (refine (putnum_any b _).mono ?_; rintro e wx ⟨vx, rfl, ownx, hbx⟩; obtain ⟨Ax, cx, hvx, _⟩ := own_shape ownx; subst hvx; have rx := own_rd ownx; have cq := fun W (hW : Below wx.heap.size wx W) => conv_bn (P := Try.prog) Try.underlying22 Try.underlying5 Try.underlying9 (rx.below hW) 8 cx (be_length 8 b))
          obtain ⟨_, _⟩ := id hHeld
          refine hK.out _ _ ?_ (fun hHeldx => ?_)
          · (try dsimp only)
            (repeat' apply And.intro) <;> (first | assumption | exact below_step (by assumption) hbx)
          clear hK K
          (try simp only [Act.put, List.setIfInBounds_toArray, List.set_cons_zero, List.set_cons_succ])
          refine wpAnyH_turn hHeldx (fun hHeld => ?_)
          refine wpAnyH_take (i := 12) (oi := ?oi35) (v := ?v35) ?hi35 (by kernel_rfl) (by kernel_rfl) (by kernel_rfl) ?hQ35 ?hy35 (by assumption) ?hrest35
          case hi35 => (simp only [List.getElem?_toArray, List.getElem?_cons_succ, List.getElem?_cons_zero]; try rfl)
          case hQ35 => exact fun _ _ _ h => h
          case hy35 =>
            refine Or.inl ⟨by rfl, ?_⟩
            (intro wq hSw; (try dsimp only at hSw); go_simp; try with_reducible rfl)
          (try simp only [Act.put, List.setIfInBounds_toArray, List.set_cons_zero, List.set_cons_succ])
          refine wpAnyH_take (i := 13) (oi := ?oi36) (v := ?v36) ?hi36 (by kernel_rfl) (by kernel_rfl) (by kernel_rfl) ?hQ36 ?hy36 (by assumption) ?hrest36
          case hi36 => (simp only [List.getElem?_toArray, List.getElem?_cons_succ, List.getElem?_cons_zero]; try rfl)
          case hQ36 => exact fun _ _ _ h => h
          case hy36 =>
            refine Or.inl ⟨by rfl, ?_⟩
            (intro wq hSw; (try dsimp only at hSw); go_simp; try with_reducible rfl)
          (try simp only [Act.put, List.setIfInBounds_toArray, List.set_cons_zero, List.set_cons_succ])
          refine wpAnyH_take (i := 17) (oi := ?oi37) (v := ?v37) ?hi37 (by kernel_rfl) (by kernel_rfl) (by kernel_rfl) ?hQ37 ?hy37 (by assumption) ?hrest37
          case hi37 => (simp only [List.getElem?_toArray, List.getElem?_cons_succ, List.getElem?_cons_zero]; try rfl)
          case hQ37 => exact fun _ _ _ h => h
          case hy37 =>
            refine Or.inl ⟨by rfl, ?_⟩
            (intro wq hSw; (try dsimp only at hSw); go_simp; try with_reducible rfl)
          (try simp only [Act.put, List.setIfInBounds_toArray, List.set_cons_zero, List.set_cons_succ])
          refine wpAnyH_take (i := 18) (oi := ?oi38) (v := ?v38) ?hi38 (by kernel_rfl) (by kernel_rfl) (by kernel_rfl) ?hQ38 ?hy38 (by assumption) ?hrest38
          case hi38 => (simp only [List.getElem?_toArray, List.getElem?_cons_succ, List.getElem?_cons_zero]; try rfl)
          case hQ38 => exact fun _ _ _ h => h
          case hy38 =>
            refine Or.inl ⟨by rfl, ?_⟩
            (intro wq hSw; (try dsimp only at hSw); go_simp; try with_reducible rfl)
          (try simp only [Act.put, List.setIfInBounds_toArray, List.set_cons_zero, List.set_cons_succ])
          refine wpAnyH_done (by kernel_rfl) ?_ _
          refine NoPanic.normal ?_
          go_wp2_with fail
          obtain ⟨⟨hh, _⟩, _⟩ := hHeld
          go_meet
          exact ⟨rfl, hh⟩
      · have h3 : decide (0 ≤ b) = false := by simpa using h2
        refine wp_region_noPanic ?_
        refine wp_region_held_drew (S := (fun W => Below w1.heap.size w1 W)) (by kernel_rfl) ?_ (fun hHeld => ?_)
        · exact (Below.refl _ _).drew
        refine wpAnyH_take (i := 0) (oi := ?oi39) (v := ?v39) ?hi39 (by kernel_rfl) (by kernel_rfl) (by kernel_rfl) ?hQ39 ?hy39 (by assumption) ?hrest39
        case hi39 => (simp only [List.getElem?_toArray, List.getElem?_cons_zero]; try rfl)
        case hQ39 => exact fun _ _ _ h => h
        case hy39 =>
          refine Or.inl ⟨by rfl, ?_⟩
          (intro wq hSw; (try dsimp only at hSw); go_simp; try with_reducible rfl)
        (try simp only [Act.put, List.setIfInBounds_toArray, List.set_cons_zero, List.set_cons_succ])
        refine wpAnyH_take (i := 1) (oi := ?oi40) (v := ?v40) ?hi40 (by kernel_rfl) (by kernel_rfl) (by kernel_rfl) ?hQ40 ?hy40 (by assumption) ?hrest40
        case hi40 => (simp only [List.getElem?_toArray, List.getElem?_cons_succ, List.getElem?_cons_zero]; try rfl)
        case hQ40 => exact fun _ _ _ h => h
        case hy40 =>
          refine Or.inl ⟨by rfl, ?_⟩
          (intro wq hSw; (try dsimp only at hSw); go_simp; try with_reducible rfl)
        (try simp only [Act.put, List.setIfInBounds_toArray, List.set_cons_zero, List.set_cons_succ])
        refine wpAnyH_take (i := 2) (oi := ?oi41) (v := ?v41) ?hi41 (by kernel_rfl) (by kernel_rfl) (by kernel_rfl) ?hQ41 ?hy41 (by assumption) ?hrest41
        case hi41 => (simp only [List.getElem?_toArray, List.getElem?_cons_succ, List.getElem?_cons_zero]; try rfl)
        case hQ41 => exact fun _ _ _ h => h
        case hy41 =>
          refine Or.inl ⟨by rfl, ?_⟩
          (intro wq hSw; (try dsimp only at hSw); go_simp; try with_reducible rfl)
        (try simp only [Act.put, List.setIfInBounds_toArray, List.set_cons_zero, List.set_cons_succ])
        refine wpAnyH_take (i := 3) (oi := ?oi42) (v := ?v42) ?hi42 (by kernel_rfl) (by kernel_rfl) (by kernel_rfl) ?hQ42 ?hy42 (by assumption) ?hrest42
        case hi42 => (simp only [List.getElem?_toArray, List.getElem?_cons_succ, List.getElem?_cons_zero]; try rfl)
        case hQ42 => exact fun _ _ _ h => h
        case hy42 =>
          refine Or.inl ⟨by rfl, ?_⟩
          (intro wq hSw; (try dsimp only at hSw); go_simp; try with_reducible rfl)
        (try simp only [Act.put, List.setIfInBounds_toArray, List.set_cons_zero, List.set_cons_succ])
        refine wpAnyH_take (i := 4) (oi := ?oi43) (v := ?v43) ?hi43 (by kernel_rfl) (by kernel_rfl) (by kernel_rfl) ?hQ43 ?hy43 (by assumption) ?hrest43
        case hi43 => (simp only [List.getElem?_toArray, List.getElem?_cons_succ, List.getElem?_cons_zero]; try rfl)
        case hQ43 => exact fun _ _ _ h => h
        case hy43 =>
          refine Or.inl ⟨by rfl, ?_⟩
          (intro wq hSw; (try dsimp only at hSw); go_simp; try with_reducible rfl)
        (try simp only [Act.put, List.setIfInBounds_toArray, List.set_cons_zero, List.set_cons_succ])
        refine wpAnyH_take (i := 5) (oi := ?oi44) (v := ?v44) ?hi44 (by kernel_rfl) (by kernel_rfl) (by kernel_rfl) ?hQ44 ?hy44 (by assumption) ?hrest44
        case hi44 => (simp only [List.getElem?_toArray, List.getElem?_cons_succ, List.getElem?_cons_zero]; try rfl)
        case hQ44 => exact fun _ _ _ h => h
        case hy44 =>
          refine Or.inl ⟨by rfl, ?_⟩
          (intro wq hSw; (try dsimp only at hSw); go_simp; try with_reducible rfl)
        (try simp only [Act.put, List.setIfInBounds_toArray, List.set_cons_zero, List.set_cons_succ])
        refine wpAnyH_take (i := 6) (oi := ?oi45) (v := ?v45) ?hi45 (by kernel_rfl) (by kernel_rfl) (by kernel_rfl) ?hQ45 ?hy45 (by assumption) ?hrest45
        case hi45 => (simp only [List.getElem?_toArray, List.getElem?_cons_succ, List.getElem?_cons_zero]; try rfl)
        case hQ45 => exact fun _ _ _ h => h
        case hy45 =>
          refine Or.inl ⟨by rfl, ?_⟩
          (intro wq hSw; (try dsimp only at hSw); go_simp; try with_reducible rfl)
        (try simp only [Act.put, List.setIfInBounds_toArray, List.set_cons_zero, List.set_cons_succ])
        refine wpAnyH_take (i := 7) (oi := ?oi46) (v := undef) ?hi46 (by kernel_rfl) (by kernel_rfl) (by kernel_rfl) ?hQ46 ?hy46 (by assumption) ?hrest46
        case hi46 => (simp only [List.getElem?_toArray, List.getElem?_cons_succ, List.getElem?_cons_zero]; try rfl)
        case hQ46 => exact fun _ _ _ h => h
        case hy46 => exact Or.inr ⟨by rfl, rfl⟩
        (try simp only [Act.put, List.setIfInBounds_toArray, List.set_cons_zero, List.set_cons_succ])
        refine wpAnyH_take (i := 8) (oi := ?oi47) (v := undef) ?hi47 (by kernel_rfl) (by kernel_rfl) (by kernel_rfl) ?hQ47 ?hy47 (by assumption) ?hrest47
        case hi47 => (simp only [List.getElem?_toArray, List.getElem?_cons_succ, List.getElem?_cons_zero]; try rfl)
        case hQ47 => exact fun _ _ _ h => h
        case hy47 => exact Or.inr ⟨by rfl, rfl⟩
        (try simp only [Act.put, List.setIfInBounds_toArray, List.set_cons_zero, List.set_cons_succ])
        refine wpAnyH_take (i := 9) (oi := ?oi48) (v := undef) ?hi48 (by kernel_rfl) (by kernel_rfl) (by kernel_rfl) ?hQ48 ?hy48 (by assumption) ?hrest48
        case hi48 => (simp only [List.getElem?_toArray, List.getElem?_cons_succ, List.getElem?_cons_zero]; try rfl)
        case hQ48 => exact fun _ _ _ h => h
        case hy48 => exact Or.inr ⟨by rfl, rfl⟩
        (try simp only [Act.put, List.setIfInBounds_toArray, List.set_cons_zero, List.set_cons_succ])
        refine wpAnyH_take (i := 10) (oi := ?oi49) (v := undef) ?hi49 (by kernel_rfl) (by kernel_rfl) (by kernel_rfl) ?hQ49 ?hy49 (by assumption) ?hrest49
        case hi49 => (simp only [List.getElem?_toArray, List.getElem?_cons_succ, List.getElem?_cons_zero]; try rfl)
        case hQ49 => exact fun _ _ _ h => h
        case hy49 => exact Or.inr ⟨by rfl, rfl⟩
        (try simp only [Act.put, List.setIfInBounds_toArray, List.set_cons_zero, List.set_cons_succ])
        refine wpAnyH_take (i := 11) (oi := ?oi50) (v := undef) ?hi50 (by kernel_rfl) (by kernel_rfl) (by kernel_rfl) ?hQ50 ?hy50 (by assumption) ?hrest50
        case hi50 => (simp only [List.getElem?_toArray, List.getElem?_cons_succ, List.getElem?_cons_zero]; try rfl)
        case hQ50 => exact fun _ _ _ h => h
        case hy50 => exact Or.inr ⟨by rfl, rfl⟩
        (try simp only [Act.put, List.setIfInBounds_toArray, List.set_cons_zero, List.set_cons_succ])
        refine wpAnyH_take (i := 12) (oi := ?oi51) (v := undef) ?hi51 (by kernel_rfl) (by kernel_rfl) (by kernel_rfl) ?hQ51 ?hy51 (by assumption) ?hrest51
        case hi51 => (simp only [List.getElem?_toArray, List.getElem?_cons_succ, List.getElem?_cons_zero]; try rfl)
        case hQ51 => exact fun _ _ _ h => h
        case hy51 => exact Or.inr ⟨by rfl, rfl⟩
        (try simp only [Act.put, List.setIfInBounds_toArray, List.set_cons_zero, List.set_cons_succ])
        refine wpAnyH_take (i := 13) (oi := ?oi52) (v := undef) ?hi52 (by kernel_rfl) (by kernel_rfl) (by kernel_rfl) ?hQ52 ?hy52 (by assumption) ?hrest52
        case hi52 => (simp only [List.getElem?_toArray, List.getElem?_cons_succ, List.getElem?_cons_zero]; try rfl)
        case hQ52 => exact fun _ _ _ h => h
        case hy52 => exact Or.inr ⟨by rfl, rfl⟩
        (try simp only [Act.put, List.setIfInBounds_toArray, List.set_cons_zero, List.set_cons_succ])
        refine wpAnyH_take (i := 14) (oi := ?oi53) (v := undef) ?hi53 (by kernel_rfl) (by kernel_rfl) (by kernel_rfl) ?hQ53 ?hy53 (by assumption) ?hrest53
        case hi53 => (simp only [List.getElem?_toArray, List.getElem?_cons_succ, List.getElem?_cons_zero]; try rfl)
        case hQ53 => exact fun _ _ _ h => h
        case hy53 => exact Or.inr ⟨by rfl, rfl⟩
        (try simp only [Act.put, List.setIfInBounds_toArray, List.set_cons_zero, List.set_cons_succ])
        refine wpAnyH_take (i := 15) (oi := ?oi54) (v := undef) ?hi54 (by kernel_rfl) (by kernel_rfl) (by kernel_rfl) ?hQ54 ?hy54 (by assumption) ?hrest54
        case hi54 => (simp only [List.getElem?_toArray, List.getElem?_cons_succ, List.getElem?_cons_zero]; try rfl)
        case hQ54 => exact fun _ _ _ h => h
        case hy54 => exact Or.inr ⟨by rfl, rfl⟩
        (try simp only [Act.put, List.setIfInBounds_toArray, List.set_cons_zero, List.set_cons_succ])
        refine wpAnyH_take (i := 16) (oi := ?oi55) (v := undef) ?hi55 (by kernel_rfl) (by kernel_rfl) (by kernel_rfl) ?hQ55 ?hy55 (by assumption) ?hrest55
        case hi55 => (simp only [List.getElem?_toArray, List.getElem?_cons_succ, List.getElem?_cons_zero]; try rfl)
        case hQ55 => exact fun _ _ _ h => h
        case hy55 => exact Or.inr ⟨by rfl, rfl⟩
        (try simp only [Act.put, List.setIfInBounds_toArray, List.set_cons_zero, List.set_cons_succ])
        refine wpAnyH_take (i := 17) (oi := ?oi56) (v := undef) ?hi56 (by kernel_rfl) (by kernel_rfl) (by kernel_rfl) ?hQ56 ?hy56 (by assumption) ?hrest56
        case hi56 => (simp only [List.getElem?_toArray, List.getElem?_cons_succ, List.getElem?_cons_zero]; try rfl)
        case hQ56 => exact fun _ _ _ h => h
        case hy56 => exact Or.inr ⟨by rfl, rfl⟩
        (try simp only [Act.put, List.setIfInBounds_toArray, List.set_cons_zero, List.set_cons_succ])
        refine wpAnyH_take (i := 18) (oi := ?oi57) (v := ?v57) ?hi57 (by kernel_rfl) (by kernel_rfl) (by kernel_rfl) ?hQ57 ?hy57 (by assumption) ?hrest57
        case hi57 => (simp only [List.getElem?_toArray, List.getElem?_cons_succ, List.getElem?_cons_zero]; try rfl)
        case hQ57 => exact fun _ _ _ h => h
        case hy57 =>
          refine Or.inl ⟨by rfl, ?_⟩
          (intro wq hSw; (try dsimp only at hSw); go_simp; try with_reducible rfl)
        (try simp only [Act.put, List.setIfInBounds_toArray, List.set_cons_zero, List.set_cons_succ])
        refine wpAnyH_done (by kernel_rfl) ?_ _
        refine NoPanic.normal ?_
        go_wp2_with fail
        go_meet
        exact ⟨rfl, hHeld⟩
    · have h3 : decide (0 ≤ a) = false := by simpa using h1
      refine wp_region_noPanic ?_
      refine wp_region_held_drew (S := (fun W => Below w1.heap.size w1 W)) (by kernel_rfl) ?_ (fun hHeld => ?_)
      · exact (Below.refl _ _).drew
      refine wpAnyH_take (i := 0) (oi := ?oi58) (v := ?v58) ?hi58 (by kernel_rfl) (by kernel_rfl) (by kernel_rfl) ?hQ58 ?hy58 (by assumption) ?hrest58
      case hi58 => (simp only [List.getElem?_toArray, List.getElem?_cons_zero]; try rfl)
      case hQ58 => exact fun _ _ _ h => h
      case hy58 =>
        refine Or.inl ⟨by rfl, ?_⟩
        (intro wq hSw; (try dsimp only at hSw); go_simp; try with_reducible rfl)
      (try simp only [Act.put, List.setIfInBounds_toArray, List.set_cons_zero, List.set_cons_succ])
      refine wpAnyH_take (i := 1) (oi := ?oi59) (v := ?v59) ?hi59 (by kernel_rfl) (by kernel_rfl) (by kernel_rfl) ?hQ59 ?hy59 (by assumption) ?hrest59
      case hi59 => (simp only [List.getElem?_toArray, List.getElem?_cons_succ, List.getElem?_cons_zero]; try rfl)
      case hQ59 => exact fun _ _ _ h => h
      case hy59 =>
        refine Or.inl ⟨by rfl, ?_⟩
        (intro wq hSw; (try dsimp only at hSw); go_simp; try with_reducible rfl)
      (try simp only [Act.put, List.setIfInBounds_toArray, List.set_cons_zero, List.set_cons_succ])
      refine wpAnyH_take (i := 2) (oi := ?oi60) (v := ?v60) ?hi60 (by kernel_rfl) (by kernel_rfl) (by kernel_rfl) ?hQ60 ?hy60 (by assumption) ?hrest60
      case hi60 => (simp only [List.getElem?_toArray, List.getElem?_cons_succ, List.getElem?_cons_zero]; try rfl)
      case hQ60 => exact fun _ _ _ h => h
      case hy60 =>
        refine Or.inl ⟨by rfl, ?_⟩
        (intro wq hSw; (try dsimp only at hSw); go_simp; try with_reducible rfl)
      (try simp only [Act.put, List.setIfInBounds_toArray, List.set_cons_zero, List.set_cons_succ])
      refine wpAnyH_take (i := 3) (oi := ?oi61) (v := undef) ?hi61 (by kernel_rfl) (by kernel_rfl) (by kernel_rfl) ?hQ61 ?hy61 (by assumption) ?hrest61
      case hi61 => (simp only [List.getElem?_toArray, List.getElem?_cons_succ, List.getElem?_cons_zero]; try rfl)
      case hQ61 => exact fun _ _ _ h => h
      case hy61 => exact Or.inr ⟨by rfl, rfl⟩
      (try simp only [Act.put, List.setIfInBounds_toArray, List.set_cons_zero, List.set_cons_succ])
      refine wpAnyH_take (i := 4) (oi := ?oi62) (v := undef) ?hi62 (by kernel_rfl) (by kernel_rfl) (by kernel_rfl) ?hQ62 ?hy62 (by assumption) ?hrest62
      case hi62 => (simp only [List.getElem?_toArray, List.getElem?_cons_succ, List.getElem?_cons_zero]; try rfl)
      case hQ62 => exact fun _ _ _ h => h
      case hy62 => exact Or.inr ⟨by rfl, rfl⟩
      (try simp only [Act.put, List.setIfInBounds_toArray, List.set_cons_zero, List.set_cons_succ])
      refine wpAnyH_take (i := 5) (oi := ?oi63) (v := ?v63) ?hi63 (by kernel_rfl) (by kernel_rfl) (by kernel_rfl) ?hQ63 ?hy63 (by assumption) ?hrest63
      case hi63 => (simp only [List.getElem?_toArray, List.getElem?_cons_succ, List.getElem?_cons_zero]; try rfl)
      case hQ63 => exact fun _ _ _ h => h
      case hy63 =>
        refine Or.inl ⟨by rfl, ?_⟩
        (intro wq hSw; (try dsimp only at hSw); go_simp; try with_reducible rfl)
      (try simp only [Act.put, List.setIfInBounds_toArray, List.set_cons_zero, List.set_cons_succ])
      refine wpAnyH_take (i := 6) (oi := ?oi64) (v := ?v64) ?hi64 (by kernel_rfl) (by kernel_rfl) (by kernel_rfl) ?hQ64 ?hy64 (by assumption) ?hrest64
      case hi64 => (simp only [List.getElem?_toArray, List.getElem?_cons_succ, List.getElem?_cons_zero]; try rfl)
      case hQ64 => exact fun _ _ _ h => h
      case hy64 =>
        refine Or.inl ⟨by rfl, ?_⟩
        (intro wq hSw; (try dsimp only at hSw); go_simp; try with_reducible rfl)
      (try simp only [Act.put, List.setIfInBounds_toArray, List.set_cons_zero, List.set_cons_succ])
      refine wpAnyH_take (i := 7) (oi := ?oi65) (v := undef) ?hi65 (by kernel_rfl) (by kernel_rfl) (by kernel_rfl) ?hQ65 ?hy65 (by assumption) ?hrest65
      case hi65 => (simp only [List.getElem?_toArray, List.getElem?_cons_succ, List.getElem?_cons_zero]; try rfl)
      case hQ65 => exact fun _ _ _ h => h
      case hy65 => exact Or.inr ⟨by rfl, rfl⟩
      (try simp only [Act.put, List.setIfInBounds_toArray, List.set_cons_zero, List.set_cons_succ])
      refine wpAnyH_take (i := 8) (oi := ?oi66) (v := undef) ?hi66 (by kernel_rfl) (by kernel_rfl) (by kernel_rfl) ?hQ66 ?hy66 (by assumption) ?hrest66
      case hi66 => (simp only [List.getElem?_toArray, List.getElem?_cons_succ, List.getElem?_cons_zero]; try rfl)
      case hQ66 => exact fun _ _ _ h => h
      case hy66 => exact Or.inr ⟨by rfl, rfl⟩
      (try simp only [Act.put, List.setIfInBounds_toArray, List.set_cons_zero, List.set_cons_succ])
      refine wpAnyH_take (i := 9) (oi := ?oi67) (v := undef) ?hi67 (by kernel_rfl) (by kernel_rfl) (by kernel_rfl) ?hQ67 ?hy67 (by assumption) ?hrest67
      case hi67 => (simp only [List.getElem?_toArray, List.getElem?_cons_succ, List.getElem?_cons_zero]; try rfl)
      case hQ67 => exact fun _ _ _ h => h
      case hy67 => exact Or.inr ⟨by rfl, rfl⟩
      (try simp only [Act.put, List.setIfInBounds_toArray, List.set_cons_zero, List.set_cons_succ])
      refine wpAnyH_take (i := 10) (oi := ?oi68) (v := undef) ?hi68 (by kernel_rfl) (by kernel_rfl) (by kernel_rfl) ?hQ68 ?hy68 (by assumption) ?hrest68
      case hi68 => (simp only [List.getElem?_toArray, List.getElem?_cons_succ, List.getElem?_cons_zero]; try rfl)
      case hQ68 => exact fun _ _ _ h => h
      case hy68 => exact Or.inr ⟨by rfl, rfl⟩
      (try simp only [Act.put, List.setIfInBounds_toArray, List.set_cons_zero, List.set_cons_succ])
      refine wpAnyH_take (i := 11) (oi := ?oi69) (v := undef) ?hi69 (by kernel_rfl) (by kernel_rfl) (by kernel_rfl) ?hQ69 ?hy69 (by assumption) ?hrest69
      case hi69 => (simp only [List.getElem?_toArray, List.getElem?_cons_succ, List.getElem?_cons_zero]; try rfl)
      case hQ69 => exact fun _ _ _ h => h
      case hy69 => exact Or.inr ⟨by rfl, rfl⟩
      (try simp only [Act.put, List.setIfInBounds_toArray, List.set_cons_zero, List.set_cons_succ])
      refine wpAnyH_take (i := 12) (oi := ?oi70) (v := undef) ?hi70 (by kernel_rfl) (by kernel_rfl) (by kernel_rfl) ?hQ70 ?hy70 (by assumption) ?hrest70
      case hi70 => (simp only [List.getElem?_toArray, List.getElem?_cons_succ, List.getElem?_cons_zero]; try rfl)
      case hQ70 => exact fun _ _ _ h => h
      case hy70 => exact Or.inr ⟨by rfl, rfl⟩
      (try simp only [Act.put, List.setIfInBounds_toArray, List.set_cons_zero, List.set_cons_succ])
      refine wpAnyH_take (i := 13) (oi := ?oi71) (v := undef) ?hi71 (by kernel_rfl) (by kernel_rfl) (by kernel_rfl) ?hQ71 ?hy71 (by assumption) ?hrest71
      case hi71 => (simp only [List.getElem?_toArray, List.getElem?_cons_succ, List.getElem?_cons_zero]; try rfl)
      case hQ71 => exact fun _ _ _ h => h
      case hy71 => exact Or.inr ⟨by rfl, rfl⟩
      (try simp only [Act.put, List.setIfInBounds_toArray, List.set_cons_zero, List.set_cons_succ])
      refine wpAnyH_take (i := 14) (oi := ?oi72) (v := undef) ?hi72 (by kernel_rfl) (by kernel_rfl) (by kernel_rfl) ?hQ72 ?hy72 (by assumption) ?hrest72
      case hi72 => (simp only [List.getElem?_toArray, List.getElem?_cons_succ, List.getElem?_cons_zero]; try rfl)
      case hQ72 => exact fun _ _ _ h => h
      case hy72 => exact Or.inr ⟨by rfl, rfl⟩
      (try simp only [Act.put, List.setIfInBounds_toArray, List.set_cons_zero, List.set_cons_succ])
      refine wpAnyH_take (i := 15) (oi := ?oi73) (v := undef) ?hi73 (by kernel_rfl) (by kernel_rfl) (by kernel_rfl) ?hQ73 ?hy73 (by assumption) ?hrest73
      case hi73 => (simp only [List.getElem?_toArray, List.getElem?_cons_succ, List.getElem?_cons_zero]; try rfl)
      case hQ73 => exact fun _ _ _ h => h
      case hy73 => exact Or.inr ⟨by rfl, rfl⟩
      (try simp only [Act.put, List.setIfInBounds_toArray, List.set_cons_zero, List.set_cons_succ])
      refine wpAnyH_take (i := 16) (oi := ?oi74) (v := undef) ?hi74 (by kernel_rfl) (by kernel_rfl) (by kernel_rfl) ?hQ74 ?hy74 (by assumption) ?hrest74
      case hi74 => (simp only [List.getElem?_toArray, List.getElem?_cons_succ, List.getElem?_cons_zero]; try rfl)
      case hQ74 => exact fun _ _ _ h => h
      case hy74 => exact Or.inr ⟨by rfl, rfl⟩
      (try simp only [Act.put, List.setIfInBounds_toArray, List.set_cons_zero, List.set_cons_succ])
      refine wpAnyH_take (i := 17) (oi := ?oi75) (v := undef) ?hi75 (by kernel_rfl) (by kernel_rfl) (by kernel_rfl) ?hQ75 ?hy75 (by assumption) ?hrest75
      case hi75 => (simp only [List.getElem?_toArray, List.getElem?_cons_succ, List.getElem?_cons_zero]; try rfl)
      case hQ75 => exact fun _ _ _ h => h
      case hy75 => exact Or.inr ⟨by rfl, rfl⟩
      (try simp only [Act.put, List.setIfInBounds_toArray, List.set_cons_zero, List.set_cons_succ])
      refine wpAnyH_take (i := 18) (oi := ?oi76) (v := ?v76) ?hi76 (by kernel_rfl) (by kernel_rfl) (by kernel_rfl) ?hQ76 ?hy76 (by assumption) ?hrest76
      case hi76 => (simp only [List.getElem?_toArray, List.getElem?_cons_succ, List.getElem?_cons_zero]; try rfl)
      case hQ76 => exact fun _ _ _ h => h
      case hy76 =>
        refine Or.inl ⟨by rfl, ?_⟩
        (intro wq hSw; (try dsimp only at hSw); go_simp; try with_reducible rfl)
      (try simp only [Act.put, List.setIfInBounds_toArray, List.set_cons_zero, List.set_cons_succ])
      refine wpAnyH_done (by kernel_rfl) ?_ _
      refine NoPanic.normal ?_
      go_wp2_with fail
      go_meet
      exact ⟨rfl, hHeld⟩
  case rest =>
    obtain ⟨rfl, hb2⟩ := hcut
    have b2 := below_step hb1 hb2
    clear Hless
    by_cases hbig : 100000 < x.length
    · go_wp2_with fail
      go_ret
      exact ⟨rfl, b2⟩
    by_cases hbig2 : 100000 < z.length
    · go_wp2_with fail
      go_ret
      exact ⟨rfl, b2⟩
    have hown : (wc.alloc (.cells #[] 5)).ownsRow wc.heap.size 5 1 (.slice (some ⟨wc.heap.size, 0, none⟩) 0 0) 0 [] := World.ownsRow_made wc #[] 0 (Nat.le_refl _) (by simp [maxLen]) rfl
    have hx2 := hx.below b2
    have hz2 := hz.below b2
    go_wp2_with first | (at_builtin; refine wpList_app rfl (.tmp 50) (.tmp 51) 22 rfl wc.heap.size 5 Try.underlying22 infoB rfl (by decide) (.slice (some ⟨wc.heap.size, 0, none⟩) 0 0) 0 _ rfl hown A x.length c (x.map byt) rfl (by simp) (hx2.alloc _) (byt_one x) (by omega) (by omega) (by simp) ?_; intro v3 w3 hin3 hg3 hat3; simp only [Nat.zero_add, List.nil_append] at hin3; have hb3 : Below wc.heap.size wc w3 := ((below_alloc wc _).grown hg3 (by simp) (by intro k hk; simp [Value.ownBlock] at hk; omega))) | (at_builtin; refine wpList_app rfl (.tmp 52) (.tmp 53) 22 rfl wc.heap.size 5 Try.underlying22 infoB rfl (by decide) _ x.length _ rfl hin3 B z.length d (z.map byt) rfl (by simp) (hz2.below hb3) (byt_one z) (by omega) (by omega) hb3.size ?_; intro v4 w4 hin4 hg4 hat4; have hb4 : Below wc.heap.size wc w4 := hb3.grown hg4 hb3.size (by intro k hk; exact (own_lt hin3 hk).1))
    rw [← List.map_append] at hin4
    have Hyn : Hid ((x ++ z).length = x.length + z.length) := hid (by rw [List.length_append])
    have b4 := below_step b2 hb4
    have hly : x.length + z.length ≤ 140737488351236 := by omega
    obtain ⟨A4, c4, rfl, hc4, _⟩ := own_shape hin4
    have r4 := own_rd hin4
    refine (K1.out _ (hx.below b4)).mono ?_
    rintro e w5 ⟨rfl, rfl⟩
    go_wp2_with fail
    refine (K2.out _ _ _ _ Hyn.out r4 hc4 hly).mono ?_
    rintro e w5 ⟨rfl, rfl⟩
    go_upto_region 9 with fail
    go_cut [82] (fun s82 wx => s82 = .bool false ∧ w4 = wx)
    case first =>
      rcases F1.out with h | h
      · have he : (e1 == 0) = false := by simpa using h
        go_wp2_with fail
        go_meet
        exact ⟨rfl, rfl⟩
      · injection h with h1 h2
        injection h2 with h2 h3
        subst h1 h2 h3
        by_cases he : e2 = 0
        · subst he
          go_wp2_with fail
          go_meet
          exact ⟨rfl, rfl⟩
        · have he : (e2 == 0) = false := by simpa using he
          go_wp2_with fail
          go_meet
          exact ⟨rfl, rfl⟩
    case rest =>
      obtain ⟨rfl, rfl⟩ := hcut
      clear F1 K1 K2
      go_wp2_with fail
      refine (K3.out _ (hx.below b4)).mono ?_
      rintro e w5 ⟨v5, rfl, own5, hb5⟩
      obtain ⟨A5, c5, rfl, hc5, _⟩ := own_shape own5
      have b5 := below_step b4 hb5
      go_wp2_with fail
      refine (K4.out _ _ _ _ Hyn.out (r4.below hb5) hc4 hly).mono ?_
      rintro e w6 ⟨v6, rfl, own6, hb6⟩
      obtain ⟨A6, c6, rfl, hc6, _⟩ := own_shape own6
      have b6 := below_step b5 hb6
      have cv5 := conv_bs (P := Try.prog) Try.underlying22 Try.underlying5 Try.underlying9 (own_rd (own_below own5 hb6)) c5
      have cv6 := conv_bs (P := Try.prog) Try.underlying22 Try.underlying5 Try.underlying9 (own_rd own6) c6
      go_upto_region 13 with fail
      go_cut [112] (fun s112 wx => s112 = .bool false ∧ w6 = wx)
      case first =>
        rcases F2.out with h | h
        · have he : (d1 == 0) = false := by simpa using h
          go_wp2_with fail
          go_meet
          exact ⟨rfl, rfl⟩
        · injection h with h1 h2
          injection h2 with h2 h3
          subst h1 h2 h3
          by_cases he : d2 = 0
          · subst he
            go_wp2_with fail
            go_meet
            exact ⟨rfl, rfl⟩
          · have he : (d2 == 0) = false := by simpa using he
            go_wp2_with fail
            go_meet
            exact ⟨rfl, rfl⟩
      case rest =>
        obtain ⟨rfl, rfl⟩ := hcut
        clear F2 K3 K4 cv5 cv6
        go_wp2_with fail
        refine (K5.out _ (hx.below b6)).mono ?_
        rintro e w7 ⟨v7, rfl, own7, hb7⟩
        have b7 := below_step b6 hb7
        obtain ⟨A7, c7, rfl, hc7, _, r7⟩ := own7.rd
        go_wp2_with fail
        refine (K6.out _ _ _ _ Hyn.out (r4.below (below_step hb5 (below_step hb6 hb7))) hc4 hly).mono ?_
        rintro e w8 ⟨v8, rfl, own8, hb8⟩
        have b8 := below_step b7 hb8
        obtain ⟨A8, c8, rfl, hc8, _, r8⟩ := own8.rd
        rcases F3.out with h | h
        · have he : (c1 != 0) = true := by simpa using h
          go_wp2_with fail
          go_ret
          exact ⟨rfl, b8⟩
        · injection h with h1 h2
          injection h2 with h2 h3
          subst h1 h2 h3
          by_cases he : c2 = 0
          · subst he
            have hq : decide (r2 = r2) = true := by simp
            go_wp2_with fail
            refine (same_any (r7.below hb8) r8 l3 l3).mono ?_
            rintro e w9 ⟨rfl, nd, rfl⟩
            go_wp2_with fail
            go_ret
            exact ⟨rfl, below_drewN b8 nd⟩
          · have he : (c2 != 0) = true := by simpa using he
            go_wp2_with fail
            go_ret
            exact ⟨rfl, b8⟩
end Go.Proofs.Ytahehikpbhneeaa
