/-
  The walk of the law ClientViews.
-/
import Derived.Test.YtelmndpelgbboaaCliI
namespace Go.Proofs.Ytelmndpelgbboaa
open Go.RowKit Go.Conc Go.Cov Go.Lib
def vmsg (cl v : Int) : Mg := ⟨2, 0, 0, v, 0, 0, 0, 0, cl, -1, none, 0, [], false, 0, none, 0, 0, none, 0, 0⟩
set_option maxRecDepth 100000 in
set_option maxHeartbeats 3200000 in
theorem views_law {A : Option Addr} {c : Nat} {vs : List Int} {w : World} (h : Rd w A (vs.map (Value.int .u16))) (hv : ∀ v ∈ vs, 0 ≤ v ∧ v < 65536) (a : Int) (ha : 0 ≤ a ∧ a < 256) :
    Calls Try.prog 3 #[.int .u8 a, .slice A vs.length c] w fun e w' => e = .returned (.bool true) ∧ Below w.heap.size w w' := by
  have kc := fun (w : World) (C : Array Value) (n c : Nat) => Lib.run_convert_bytes_const (P := Try.prog) w 29 5 C n c Try.underlying29 Try.underlying5
  obtain ⟨n, hn⟩ : ∃ n, a.tmod 4 = n := ⟨_, rfl⟩
  have hn2 : 0 ≤ n ∧ n ≤ 3 := by rw [← hn, Int.tmod_eq_emod_of_nonneg ha.1]; omega
  have hw1 : IntKind.u8.wrap n = n := by simp [IntKind.wrap, IntKind.bits, IntKind.signed]; omega
  have hw2 : IntKind.i64.wrap n = n := wrap_of _ (by omega) (by omega)
  go_enter Try.func3, Try.ntmps3
  go_wp2_with fail
  refine (chead_any w).mono ?_
  rintro e w1 ⟨rfl, hb1⟩
  go_wp2_with fail
  have hok : okC n 3 5 4 := by unfold okC; omega
  refine (new_cl hok w1).mono ?_
  rintro e w2 ⟨cb, xb, xc, rfl, hC0, hb2⟩
  have b2 := below_step hb1 hb2
  have hs1 := hb1.size
  have h1 := h.below hb1
  by_cases hl : 300 < vs.length
  · have j : (300 : Int) < vs.length := by omega
    go_wp2_with fail
    go_ret
    exact ⟨rfl, b2⟩
  · have j : ¬ (300 : Int) < vs.length := by omega
    go_wp2_with fail
    go_loopw [8, 9] (fun l i W => ∃ (k : Nat) (s : Cs), k ≤ vs.length ∧ i = .int .i64 k ∧ l = .int .i64 s.view ∧ (s.f = n ∧ s.number = 3 ∧ s.count = 0 ∧ s.waits = false ∧ s.ans = [] ∧ s.again = 5 ∧ s.room = 4 ∧ 0 ≤ s.view ∧ s.view < 65536) ∧ Cl W w1.heap.size cb s ∧ Below w1.heap.size w1 W) (fun _ i _ => vs.length - (RowKit.intOf i).toNat)
    case atStart => exact ⟨0, new0 n 3 5 4 xb xc, by omega, rfl, rfl, ⟨rfl, rfl, rfl, rfl, rfl, rfl, rfl, by show (0 : Int) ≤ 0; decide, by show (0 : Int) < 65536; decide⟩, hC0, hb2⟩
    case round =>
      obtain ⟨k, s, hk, rfl, rfl, ⟨s1, s2, s3, s4, s5, s6, s7, s8, s9⟩, hC, hb⟩ := hrel
      by_cases hlt : k < vs.length
      · have i1 : (k : Int) < vs.length := by omega
        obtain ⟨ad, rfl, hc1⟩ := h1.at' (j := k) (u := .int .u16 vs[k]) (by rw [List.getElem?_map, List.getElem?_eq_getElem hlt]; rfl)
        have hvk := hv vs[k] (List.getElem_mem hlt)
        generalize vs[k] = v at hc1 hvk
        have hc := cell_on hb hc1
        have hw3 : IntKind.i64.wrap v = v := wrap_of _ (by omega) (by omega)
        have K1 := hid (handle_mine hC (vmsg 3 v) ⟨rfl, s2.symm, hvk.1, by show v ≤ 1073741824; omega⟩ (fun e => by rw [s4] at e; cases e) (fun W _ => Rd.nil _ _) (Nat.zero_le _))
        go_wp2_with fail
        refine K1.out.mono ?_
        rintro e w3 ⟨V, kk, ⟨v3, rfl⟩, hC3, hG3⟩
        have hts : takes s (vmsg 3 v) V kk = sees s (vmsg 3 v) := by unfold takes; rw [if_neg (fun e => by rw [s4] at e; cases e.1)]
        rw [hts] at hC3
        have K2 := hid (handle_not hC3 (vmsg 4 1048576) (fun e => by have := e.2.1; simp [vmsg, sees, s2] at this))
        go_wp2_with fail
        refine K2.out.mono ?_
        rintro e w4 ⟨⟨v4, rfl⟩, hC4, hG4⟩
        have hbs := hb.size
        have b3 := hb.trans (hG3.below hC.lo.1 hC.lo.2.2 hbs)
        have hs3 := hG3.size
        have b4 := b3.trans (hG4.below hC.lo.1 hC.lo.2.2 (Nat.le_trans hbs hs3))
        have hc4 := cell_on b4 hc1
        obtain ⟨mv, hmv⟩ : ∃ mv, (if s.view < v then v else s.view) = mv := ⟨_, rfl⟩
        have hmv2 : (if v < s.view then s.view else v) = mv := by rw [← hmv]; split <;> split <;> omega
        have hmv3 : 0 ≤ mv ∧ mv < 65536 := by rw [← hmv]; split <;> omega
        have HMV := hid hmv
        clear hc
        go_wp2_with fail
        go_roundw
        case rel => exact ⟨k + 1, sees s (vmsg 3 v), by omega, by go_num, by show Value.int .i64 mv = .int .i64 (if s.view < v then v else s.view); rw [HMV.out], ⟨s1, s2, s3, s4, s5, s6, s7, by show 0 ≤ (if s.view < v then v else s.view); rw [HMV.out]; exact hmv3.1, by show (if s.view < v then v else s.view) < 65536; rw [HMV.out]; exact hmv3.2⟩, hC4, b4⟩
        case measure => simp [RowKit.intOf]; omega
      · obtain rfl : k = vs.length := by omega
        have hbs := hb.size
        clear h h1
        subst s1
        have j1 : IntKind.i64.wrap (2 * s.f) = 2 * s.f := wrap_of _ (by omega) (by omega)
        have j2 : IntKind.i64.wrap (2 * s.f + 1) = 2 * s.f + 1 := wrap_of _ (by omega) (by omega)
        have j3 : s.view.tmod (2 * s.f + 1) = s.view % (2 * s.f + 1) := Int.tmod_eq_emod_of_nonneg s8
        have j4 : ¬ (2 * s.f + 1 = 0) := by omega
        go_wp2_with fail
        have e1 := below_alloc wr (.cells #[.int .u8 97] 5 (1, 2))
        have r1 : Rd (wr.alloc (.cells #[.int .u8 97] 5 (1, 2))) (some ⟨wr.heap.size, 0, none⟩) (([97] : List UInt8).map byt) := rd_boxf wr #[.int .u8 97] 5 (1, 2)
        have hlt := hC.lt
        generalize (wr.alloc (.cells #[.int .u8 97] 5 (1, 2))) = w4 at e1 r1 ⊢
        have hC := hC.gro e1
        have b4 := below_step hb e1
        refine (ask_yes (b := [97]) (d := 1) hC (by unfold Fine okC; rw [s2, s3, s5, s6, s7]; simp; omega) (by unfold mayAsk; rw [s3, s4, s5, s7]; simp) (fun W hW => hW.rd r1 (fun ad hA => by cases hA; exact ⟨Nat.ne_of_gt hlt.1, Nat.ne_of_gt hlt.2.2⟩))).mono ?_
        rintro e w5 ⟨V, kk, g, rfl, hC5, hE, hg, hV, hcap, hG⟩
        have b5 := b4.trans (hG.below hC.lo.1 hC.lo.2.2 b4.size)
        obtain ⟨ad3, ha3, hcell, _⟩ := hE.at' 0 (by simp)
        cases ha3
        have y2 : w5.cell? ⟨g, 2, none⟩ = some (.int .i64 (s.view % (2 * s.f + 1))) := by have := hcell 2 _ rfl; simpa [add_none] using this
        clear hcell hE r1 e1
        go_upto_region 14 with fail
        have k2 := fun W (hW : Below w5.heap.size w5 W) => cell_on hW y2
        have KW := hid (fun W (hW : Below w5.heap.size w5 W) => waits_cl (hC5.gro hW))
        refine wp_region_noPanic ?_
        refine wp_region_held_drew (S := (fun W => Below w5.heap.size w5 W)) (by kernel_rfl) ?_ (fun hHeld => ?_)
        · exact (Below.refl _ _).drew
        refine wpAnyH_take (i := 0) (oi := ?oi1) (v := ?v1) ?hi1 (by kernel_rfl) (by kernel_rfl) (by kernel_rfl) ?hQ1 ?hy1 (by assumption) ?hrest1
        case hi1 => (simp only [List.getElem?_toArray, List.getElem?_cons_zero]; try rfl)
        case hQ1 => exact fun _ _ _ h => h
        case hy1 =>
          refine Or.inl ⟨by rfl, ?_⟩
          (intro wq hSw; (try dsimp only at hSw); go_simp; try with_reducible rfl)
        (try simp only [Act.put, List.setIfInBounds_toArray, List.set_cons_zero, List.set_cons_succ])
        refine wpAnyH_take (i := 1) (oi := ?oi2) (v := ?v2) ?hi2 (by kernel_rfl) (by kernel_rfl) (by kernel_rfl) ?hQ2 ?hy2 (by assumption) ?hrest2
        case hi2 => (simp only [List.getElem?_toArray, List.getElem?_cons_succ, List.getElem?_cons_zero]; try rfl)
        case hQ2 => exact fun _ _ _ h => h
        case hy2 =>
          refine Or.inl ⟨by rfl, ?_⟩
          (intro wq hSw; (try dsimp only at hSw); go_simp; try with_reducible rfl)
        (try simp only [Act.put, List.setIfInBounds_toArray, List.set_cons_zero, List.set_cons_succ])
        refine wpAnyH_take (i := 2) (oi := ?oi3) (v := ?v3) ?hi3 (by kernel_rfl) (by kernel_rfl) (by kernel_rfl) ?hQ3 ?hy3 (by assumption) ?hrest3
        case hi3 => (simp only [List.getElem?_toArray, List.getElem?_cons_succ, List.getElem?_cons_zero]; try rfl)
        case hQ3 => exact fun _ _ _ h => h
        case hy3 =>
          refine Or.inl ⟨by rfl, ?_⟩
          (intro wq hSw; (try dsimp only at hSw); go_simp; try with_reducible rfl)
        (try simp only [Act.put, List.setIfInBounds_toArray, List.set_cons_zero, List.set_cons_succ])
        refine wpAnyH_take (i := 3) (oi := ?oi4) (v := ?v4) ?hi4 (by kernel_rfl) (by kernel_rfl) (by kernel_rfl) ?hQ4 ?hy4 (by assumption) ?hrest4
        case hi4 => (simp only [List.getElem?_toArray, List.getElem?_cons_succ, List.getElem?_cons_zero]; try rfl)
        case hQ4 => exact fun _ _ _ h => h
        case hy4 =>
          refine Or.inl ⟨by rfl, ?_⟩
          (intro wq hSw; (try dsimp only at hSw); go_simp; try with_reducible rfl)
        (try simp only [Act.put, List.setIfInBounds_toArray, List.set_cons_zero, List.set_cons_succ])
        refine wpAnyH_take (i := 4) (oi := ?oi5) (v := ?v5) ?hi5 (by kernel_rfl) (by kernel_rfl) (by kernel_rfl) ?hQ5 ?hy5 (by assumption) ?hrest5
        case hi5 => (simp only [List.getElem?_toArray, List.getElem?_cons_succ, List.getElem?_cons_zero]; try rfl)
        case hQ5 => exact fun _ _ _ h => h
        case hy5 =>
          refine Or.inl ⟨by rfl, ?_⟩
          (intro wq hSw; (try dsimp only at hSw); go_simp; try with_reducible rfl)
        (try simp only [Act.put, List.setIfInBounds_toArray, List.set_cons_zero, List.set_cons_succ])
        refine wpAnyH_take (i := 5) (oi := ?oi6) (v := ?v6) ?hi6 (by kernel_rfl) (by kernel_rfl) (by kernel_rfl) ?hQ6 ?hy6 (by assumption) ?hrest6
        case hi6 => (simp only [List.getElem?_toArray, List.getElem?_cons_succ, List.getElem?_cons_zero]; try rfl)
        case hQ6 => exact fun _ _ _ h => h
        case hy6 =>
          refine Or.inl ⟨by rfl, ?_⟩
          (intro wq hSw; (try dsimp only at hSw); go_simp; try with_reducible rfl)
        (try simp only [Act.put, List.setIfInBounds_toArray, List.set_cons_zero, List.set_cons_succ])
        refine wpAnyH_take (i := 6) (oi := ?oi7) (v := ?v7) ?hi7 (by kernel_rfl) (by kernel_rfl) (by kernel_rfl) ?hQ7 ?hy7 (by assumption) ?hrest7
        case hi7 => (simp only [List.getElem?_toArray, List.getElem?_cons_succ, List.getElem?_cons_zero]; try rfl)
        case hQ7 => exact fun _ _ _ h => h
        case hy7 =>
          refine Or.inl ⟨by rfl, ?_⟩
          (intro wq hSw; (try dsimp only at hSw); go_simp; try with_reducible rfl)
        (try simp only [Act.put, List.setIfInBounds_toArray, List.set_cons_zero, List.set_cons_succ])
        refine wpAnyH_take (i := 7) (oi := ?oi8) (v := ?v8) ?hi8 (by kernel_rfl) (by kernel_rfl) (by kernel_rfl) ?hQ8 ?hy8 (by assumption) ?hrest8
        case hi8 => (simp only [List.getElem?_toArray, List.getElem?_cons_succ, List.getElem?_cons_zero]; try rfl)
        case hQ8 => exact fun _ _ _ h => h
        case hy8 =>
          refine Or.inl ⟨by rfl, ?_⟩
          (intro wq hSw; (try dsimp only at hSw); go_simp; try with_reducible rfl)
        (try simp only [Act.put, List.setIfInBounds_toArray, List.set_cons_zero, List.set_cons_succ])
        refine wpAnyH_take (i := 8) (oi := ?oi9) (v := ?v9) ?hi9 (by kernel_rfl) (by kernel_rfl) (by kernel_rfl) ?hQ9 ?hy9 (by assumption) ?hrest9
        case hi9 => (simp only [List.getElem?_toArray, List.getElem?_cons_succ, List.getElem?_cons_zero]; try rfl)
        case hQ9 => exact fun _ _ _ h => h
        case hy9 =>
          refine Or.inl ⟨by rfl, ?_⟩
          (intro wq hSw; (try dsimp only at hSw); go_simp; try with_reducible rfl)
        (try simp only [Act.put, List.setIfInBounds_toArray, List.set_cons_zero, List.set_cons_succ])
        refine wpAnyH_take (i := 9) (oi := ?oi10) (v := ?v10) ?hi10 (by kernel_rfl) (by kernel_rfl) (by kernel_rfl) ?hQ10 ?hy10 (by assumption) ?hrest10
        case hi10 => (simp only [List.getElem?_toArray, List.getElem?_cons_succ, List.getElem?_cons_zero]; try rfl)
        case hQ10 => exact fun _ _ _ h => h
        case hy10 =>
          refine Or.inl ⟨by rfl, ?_⟩
          (intro wq hSw; (try dsimp only at hSw); go_simp; try with_reducible rfl)
        (try simp only [Act.put, List.setIfInBounds_toArray, List.set_cons_zero, List.set_cons_succ])
        refine wpAnyH_take (i := 10) (oi := ?oi11) (v := ?v11) ?hi11 (by kernel_rfl) (by kernel_rfl) (by kernel_rfl) ?hQ11 ?hy11 (by assumption) ?hrest11
        case hi11 => (simp only [List.getElem?_toArray, List.getElem?_cons_succ, List.getElem?_cons_zero]; try rfl)
        case hQ11 => exact fun _ _ _ h => h
        case hy11 =>
          refine Or.inl ⟨by rfl, ?_⟩
          (intro wq hSw; (try dsimp only at hSw); go_simp; try with_reducible rfl)
        (try simp only [Act.put, List.setIfInBounds_toArray, List.set_cons_zero, List.set_cons_succ])
        refine wpAnyH_take (i := 11) (oi := ?oi12) (v := ?v12) ?hi12 (by kernel_rfl) (by kernel_rfl) (by kernel_rfl) ?hQ12 ?hy12 (by assumption) ?hrest12
        case hi12 => (simp only [List.getElem?_toArray, List.getElem?_cons_succ, List.getElem?_cons_zero]; try rfl)
        case hQ12 => exact fun _ _ _ h => h
        case hy12 =>
          refine Or.inl ⟨by rfl, ?_⟩
          (intro wq hSw; (try dsimp only at hSw); go_simp; try with_reducible rfl)
        (try simp only [Act.put, List.setIfInBounds_toArray, List.set_cons_zero, List.set_cons_succ])
        refine wpAnyH_take (i := 12) (oi := ?oi13) (v := ?v13) ?hi13 (by kernel_rfl) (by kernel_rfl) (by kernel_rfl) ?hQ13 ?hy13 (by assumption) ?hrest13
        case hi13 => (simp only [List.getElem?_toArray, List.getElem?_cons_succ, List.getElem?_cons_zero]; try rfl)
        case hQ13 => exact fun _ _ _ h => h
        case hy13 =>
          refine Or.inl ⟨by rfl, ?_⟩
          (intro wq hSw; (try dsimp only at hSw); go_simp; try with_reducible rfl)
        (try simp only [Act.put, List.setIfInBounds_toArray, List.set_cons_zero, List.set_cons_succ])
        refine wpAnyH_take (i := 13) (oi := ?oi14) (v := ?v14) ?hi14 (by kernel_rfl) (by kernel_rfl) (by kernel_rfl) ?hQ14 ?hy14 (by assumption) ?hrest14
        case hi14 => (simp only [List.getElem?_toArray, List.getElem?_cons_succ, List.getElem?_cons_zero]; try rfl)
        case hQ14 => exact fun _ _ _ h => h
        case hy14 =>
          refine Or.inl ⟨by rfl, ?_⟩
          (intro wq hSw; (try dsimp only at hSw); go_simp; try with_reducible rfl)
        (try simp only [Act.put, List.setIfInBounds_toArray, List.set_cons_zero, List.set_cons_succ])
        refine wpAnyH_take (i := 14) (oi := ?oi15) (v := ?v15) ?hi15 (by kernel_rfl) (by kernel_rfl) (by kernel_rfl) ?hQ15 ?hy15 (by assumption) ?hrest15
        case hi15 => (simp only [List.getElem?_toArray, List.getElem?_cons_succ, List.getElem?_cons_zero]; try rfl)
        case hQ15 => exact fun _ _ _ h => h
        case hy15 =>
          refine Or.inl ⟨by rfl, ?_⟩
          (intro wq hSw; (try dsimp only at hSw); go_simp; try with_reducible rfl)
        (try simp only [Act.put, List.setIfInBounds_toArray, List.set_cons_zero, List.set_cons_succ])
        refine wpAnyH_take (i := 15) (oi := ?oi16) (v := ?v16) ?hi16 (by kernel_rfl) (by kernel_rfl) (by kernel_rfl) ?hQ16 ?hy16 (by assumption) ?hrest16
        case hi16 => (simp only [List.getElem?_toArray, List.getElem?_cons_succ, List.getElem?_cons_zero]; try rfl)
        case hQ16 => exact fun _ _ _ h => h
        case hy16 =>
          refine Or.inl ⟨by rfl, ?_⟩
          (intro wq hSw; (try dsimp only at hSw); go_simp; try with_reducible rfl)
        (try simp only [Act.put, List.setIfInBounds_toArray, List.set_cons_zero, List.set_cons_succ])
        refine wpAnyH_take (i := 16) (oi := ?oi17) (v := ?v17) ?hi17 (by kernel_rfl) (by kernel_rfl) (by kernel_rfl) ?hQ17 ?hy17 (by assumption) ?hrest17
        case hi17 => (simp only [List.getElem?_toArray, List.getElem?_cons_succ, List.getElem?_cons_zero]; try rfl)
        case hQ17 => exact fun _ _ _ h => h
        case hy17 =>
          refine Or.inl ⟨by rfl, ?_⟩
          (intro wq hSw; (try dsimp only at hSw); go_simp; try with_reducible rfl)
        (try simp only [Act.put, List.setIfInBounds_toArray, List.set_cons_zero, List.set_cons_succ])
        refine wpAnyH_take (i := 17) (oi := ?oi18) (v := ?v18) ?hi18 (by kernel_rfl) (by kernel_rfl) (by kernel_rfl) ?hQ18 ?hy18 (by assumption) ?hrest18
        case hi18 => (simp only [List.getElem?_toArray, List.getElem?_cons_succ, List.getElem?_cons_zero]; try rfl)
        case hQ18 => exact fun _ _ _ h => h
        case hy18 =>
          refine Or.inl ⟨by rfl, ?_⟩
          (intro wq hSw; (try dsimp only at hSw); go_simp; try with_reducible rfl)
        (try simp only [Act.put, List.setIfInBounds_toArray, List.set_cons_zero, List.set_cons_succ])
        refine wpAnyH_take (i := 18) (oi := ?oi19) (v := ?v19) ?hi19 (by kernel_rfl) (by kernel_rfl) (by kernel_rfl) ?hQ19 ?hy19 (by assumption) ?hrest19
        case hi19 => (simp only [List.getElem?_toArray, List.getElem?_cons_succ, List.getElem?_cons_zero]; try rfl)
        case hQ19 => exact fun _ _ _ h => h
        case hy19 =>
          refine Or.inl ⟨by rfl, ?_⟩
          (intro wq hSw; (try dsimp only at hSw); go_simp; try with_reducible rfl)
        (try simp only [Act.put, List.setIfInBounds_toArray, List.set_cons_zero, List.set_cons_succ])
        refine wpAnyH_take (i := 19) (oi := ?oi20) (v := ?v20) ?hi20 (by kernel_rfl) (by kernel_rfl) (by kernel_rfl) ?hQ20 ?hy20 (by assumption) ?hrest20
        case hi20 => (simp only [List.getElem?_toArray, List.getElem?_cons_succ, List.getElem?_cons_zero]; try rfl)
        case hQ20 => exact fun _ _ _ h => h
        case hy20 =>
          refine Or.inl ⟨by rfl, ?_⟩
          (intro wq hSw; (try dsimp only at hSw); go_simp; try with_reducible rfl)
        (try simp only [Act.put, List.setIfInBounds_toArray, List.set_cons_zero, List.set_cons_succ])
        refine wpAnyH_take (i := 20) (oi := ?oi21) (v := ?v21) ?hi21 (by kernel_rfl) (by kernel_rfl) (by kernel_rfl) ?hQ21 ?hy21 (by assumption) ?hrest21
        case hi21 => (simp only [List.getElem?_toArray, List.getElem?_cons_succ, List.getElem?_cons_zero]; try rfl)
        case hQ21 => exact fun _ _ _ h => h
        case hy21 =>
          refine Or.inl ⟨by rfl, ?_⟩
          (intro wq hSw; (try dsimp only at hSw); go_simp; try with_reducible rfl)
        (try simp only [Act.put, List.setIfInBounds_toArray, List.set_cons_zero, List.set_cons_succ])
        refine wpAnyH_take (i := 21) (oi := ?oi22) (v := ?v22) ?hi22 (by kernel_rfl) (by kernel_rfl) (by kernel_rfl) ?hQ22 ?hy22 (by assumption) ?hrest22
        case hi22 => (simp only [List.getElem?_toArray, List.getElem?_cons_succ, List.getElem?_cons_zero]; try rfl)
        case hQ22 => exact fun _ _ _ h => h
        case hy22 =>
          refine Or.inl ⟨by rfl, ?_⟩
          (intro wq hSw; (try dsimp only at hSw); go_simp; try with_reducible rfl)
        (try simp only [Act.put, List.setIfInBounds_toArray, List.set_cons_zero, List.set_cons_succ])
        refine wpAnyH_take (i := 22) (oi := ?oi23) (v := ?v23) ?hi23 (by kernel_rfl) (by kernel_rfl) (by kernel_rfl) ?hQ23 ?hy23 (by assumption) ?hrest23
        case hi23 => (simp only [List.getElem?_toArray, List.getElem?_cons_succ, List.getElem?_cons_zero]; try rfl)
        case hQ23 => exact fun _ _ _ h => h
        case hy23 =>
          refine Or.inl ⟨by rfl, ?_⟩
          (intro wq hSw; (try dsimp only at hSw); go_simp; try with_reducible rfl)
        (try simp only [Act.put, List.setIfInBounds_toArray, List.set_cons_zero, List.set_cons_succ])
        refine wpAnyH_ready (rs := [23]) (by kernel_rfl) (by simp) ?_
        refine AllReadyH.cons (o := ?oi24) ?hi24 (fun K hK => ?hstep24) AllReadyH.nil
        case hi24 => (simp only [List.getElem?_toArray, List.getElem?_cons_succ, List.getElem?_cons_zero]; try rfl)
        go_simp
        (refine (KW.out _ hHeld).mono ?_; rintro e wx ⟨rfl, rfl⟩)
        refine hK.out _ _ hHeld (fun hHeld => ?_)
        clear hK K
        (try simp only [Act.put, List.setIfInBounds_toArray, List.set_cons_zero, List.set_cons_succ])
        refine wpAnyH_take (i := 24) (oi := ?oi25) (v := ?v25) ?hi25 (by kernel_rfl) (by kernel_rfl) (by kernel_rfl) ?hQ25 ?hy25 (by assumption) ?hrest25
        case hi25 => (simp only [List.getElem?_toArray, List.getElem?_cons_succ, List.getElem?_cons_zero]; try rfl)
        case hQ25 => exact fun _ _ _ h => h
        case hy25 =>
          refine Or.inl ⟨by rfl, ?_⟩
          (intro wq hSw; (try dsimp only at hSw); go_simp; try with_reducible rfl)
        (try simp only [Act.put, List.setIfInBounds_toArray, List.set_cons_zero, List.set_cons_succ])
        refine wpAnyH_take (i := 25) (oi := ?oi26) (v := ?v26) ?hi26 (by kernel_rfl) (by kernel_rfl) (by kernel_rfl) ?hQ26 ?hy26 (by assumption) ?hrest26
        case hi26 => (simp only [List.getElem?_toArray, List.getElem?_cons_succ, List.getElem?_cons_zero]; try rfl)
        case hQ26 => exact fun _ _ _ h => h
        case hy26 =>
          refine Or.inl ⟨by rfl, ?_⟩
          (intro wq hSw; (try dsimp only at hSw); go_simp; try with_reducible rfl)
        (try simp only [Act.put, List.setIfInBounds_toArray, List.set_cons_zero, List.set_cons_succ])
        refine wpAnyH_done (by kernel_rfl) ?_ _
        refine NoPanic.normal ?_
        go_wp2_with fail
        go_ret
        exact ⟨rfl, (hb1.trans (b5.mono hs1)).trans (hHeld.mono (by have := b5.size; omega))⟩
end Go.Proofs.Ytelmndpelgbboaa
