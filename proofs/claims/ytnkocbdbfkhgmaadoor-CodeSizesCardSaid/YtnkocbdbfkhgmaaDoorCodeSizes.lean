import Derived.Test.YtnkocbdbfkhgmaaDoorCodeKept
import Derived.Test.YtnkocbdbfkhgmaaDoorPlain1
/-! CodeSizes: a module's bytes are as many as its parts ask for. -/
namespace Go.Proofs.YtnkocbdbfkhgmaaDoor
open Go.RowKit Go.Cov
theorem szCs_step (cs : List Co) (k : Nat) (hk : k < cs.length) : szCs ((cs.map Co.data).take (k + 1)) = szCs ((cs.map Co.data).take k) + szC cs[k].data := by
  rw [List.take_succ_eq_append_getElem (by simpa using hk), szCs_snoc, List.getElem_map]
theorem szTs_step (ts : List SlR) (k : Nat) (hk : k < ts.length) : szTs ((ts.map SlR.l).take (k + 1)) = szTs ((ts.map SlR.l).take k) + (4 + ts[k].l.length) := by
  rw [List.take_succ_eq_append_getElem (by simpa using hk), szTs_snoc, List.getElem_map]
theorem szCs_take : ∀ (l : List CD) (k : Nat), szCs (l.take k) ≤ szCs l
  | [], k => by simp
  | c :: l, 0 => by simp [szCs]
  | c :: l, k + 1 => by have := szCs_take l k; rw [List.take_succ_cons, szCs, szCs]; omega
theorem szTs_take : ∀ (l : List (List UInt8)) (k : Nat), szTs (l.take k) ≤ szTs l
  | [], k => by simp
  | c :: l, 0 => by simp [szTs]
  | c :: l, k + 1 => by have := szTs_take l k; rw [List.take_succ_cons, szTs, szTs]; omega
set_option maxRecDepth 100000 in
set_option maxHeartbeats 12800000 in
theorem sizes_law {w : World} {m : Mo} (h : MoRd w m) (ht : STab w) :
    Calls Tryd.prog 8 #[.agg #[.slice m.cA m.cs.length m.cc, .slice m.tA m.ts.length m.tc]] w fun e w' => e = .returned (.bool true) ∧ Below w.heap.size w w' := by
  replace ht := hid ht
  obtain ⟨cA, cc, cs, tA, tc, ts⟩ := m
  dsimp only
  have b0 := below_alloc w (.cells #[.slice cA cs.length cc, .slice tA ts.length tc] 25)
  have R0 := Row.new w [.slice cA cs.length cc, .slice tA ts.length tc] 25
  have h1 := h.below b0
  replace h1 := hid h1
  clear h
  go_enter Tryd.func8, Tryd.ntmps8
  go_upto_region 1 with fail
  change Row (w.alloc (.cells #[.slice cA cs.length cc, .slice tA ts.length tc] 25)) _ _ at R0
  obtain ⟨kM, hkM⟩ : ∃ k, k = w.heap.size := ⟨_, rfl⟩
  generalize w.alloc (.cells #[.slice cA cs.length cc, .slice tA ts.length tc] 25) = w1 at b0 R0 h1 ⊢
  rw [← hkM] at R0 ⊢
  replace hkM := hid hkM
  have ht1 := hid (ht.out.below b0)
  clear ht
  go_wp2_with fail
  refine (head_any w1 ht1.out).mono ?_
  rintro e w2 ⟨rfl, hb2⟩
  have h2 := h1.out.below hb2
  have R2 := R0.below hb2
  replace b0 := below_step b0 hb2
  clear hb2 h1 R0 ht1
  have K := great_any h2
  dsimp only at K
  replace K := hid K
  have C0 := (R2.2 0 _ rfl).1
  have C1 := (R2.2 1 _ rfl).1
  replace R2 := hid R2
  go_wp2_with fail
  refine K.out.mono ?_
  rintro e w3 ⟨q, rfl, hb3⟩
  have h3 := h2.below hb3
  have R3 := R2.out.below hb3
  replace b0 := below_step b0 hb3
  clear K C0 C1 hb3 h2 R2
  cases q
  case true =>
    go_wp2_with fail
    go_ret
    exact ⟨rfl, b0⟩
  have K := put_any h3
  dsimp only at K
  obtain ⟨is, his⟩ : ∃ r, rightMo (⟨cA, cc, cs, tA, tc, ts⟩ : Mo).data = r := ⟨_, rfl⟩
  have C0 := (R3.2 0 _ rfl).1
  have C1 := (R3.2 1 _ rfl).1
  cases is
  case false =>
    rw [bytesMo_no his] at K
    replace K := hid K
    replace R3 := hid R3
    replace his := hid his
    go_wp2_with fail
    refine K.out.mono ?_
    rintro e w4 ⟨v4, rfl, own4, hb4⟩
    obtain ⟨A4, c4, rfl, _⟩ := own_shape own4
    replace b0 := below_step b0 hb4
    clear K C0 C1
    go_wp2_with fail
    go_ret
    exact ⟨rfl, b0⟩
  rw [bytesMo_ok his] at K
  have hle := putMo_le his
  have hz : 12 ≤ (putMo (⟨cA, cc, cs, tA, tc, ts⟩ : Mo).data).length := by rw [putMo_len]; omega
  have hlen := putMo_len (⟨cA, cc, cs, tA, tc, ts⟩ : Mo).data
  obtain ⟨L, hL⟩ : ∃ L, (putMo (⟨cA, cc, cs, tA, tc, ts⟩ : Mo).data).length = L := ⟨_, rfl⟩
  rw [hL] at K hle hz hlen
  have hlen2 : L = 12 + szCs (cs.map Co.data) + szTs (ts.map SlR.l) := hlen
  clear hlen
  have hcm : cs.length ≤ 9223372036854775807 := code_len h3.cc
  have htm : ts.length ≤ 9223372036854775807 := code_len h3.tc
  replace hL := hid hL
  replace hlen2 := hid hlen2
  replace K := hid K
  replace R3 := hid R3
  replace his := hid his
  go_wp2_with fail
  refine K.out.mono ?_
  rintro e w4 ⟨v4, rfl, own4, hb4⟩
  obtain ⟨A4, c4, rfl, _⟩ := own_shape own4
  have R4 := R3.out.below hb4
  have h4 := h3.below hb4
  replace b0 := below_step b0 hb4
  clear K C0 C1 own4 hb4 h3 R3
  replace h4 := hid h4
  go_wp2_with fail
  go_loopw [6, 7] (fun s i W => ∃ (k : Nat) (n : Nat), k ≤ cs.length ∧ i = .int .i64 k ∧ s = .int .i64 n ∧ Hid (n = 12 + szCs ((cs.map Co.data).take k)) ∧ Below w4.heap.size w4 W) (fun _ i _ => cs.length - (RowKit.intOf i).toNat)
  case atStart => exact ⟨0, 12, by omega, rfl, rfl, hid (by simp [szCs]), Below.refl _ _⟩
  case round =>
    obtain ⟨k, n, hk, rfl, hs, hn, hb⟩ := hrel
    subst hs
    have R := R4.below hb
    have C0 := (R.2 0 _ rfl).1
    have C1 := (R.2 1 _ rfl).1
    by_cases hlt : k < cs.length
    · obtain ⟨ad, rfl, x0, x1, x2, x3, x4⟩ := co_at (h4.out.c.below hb) k hlt
      have hst := szCs_step cs k hlt
      have htk := szCs_take (cs.map Co.data) (k + 1)
      generalize cs[k] = x at x0 x1 x2 x3 x4 hst
      obtain ⟨nm, pA, pc, ps, res, slots, iA, ic, is⟩ := x
      unfold Co.data szC at hst
      dsimp only at x0 x1 x2 x3 x4 hst
      have hnb : n + (4 + nm.length + 8 * (4 + ps.length) + 16 * is.length) ≤ 17000000 := by
        have := hn.out; have := hlen2.out; have hl := hle; unfold Co.data at *; omega
      obtain ⟨a1, ha1⟩ : ∃ a : Nat, a = n + 4 := ⟨_, rfl⟩
      obtain ⟨a2, ha2⟩ : ∃ a : Nat, a = a1 + nm.length := ⟨_, rfl⟩
      obtain ⟨a3, ha3⟩ : ∃ a : Nat, a = 4 + ps.length := ⟨_, rfl⟩
      obtain ⟨a4, ha4⟩ : ∃ a : Nat, a = 8 * a3 := ⟨_, rfl⟩
      obtain ⟨a5, ha5⟩ : ∃ a : Nat, a = a2 + a4 := ⟨_, rfl⟩
      obtain ⟨a6, ha6⟩ : ∃ a : Nat, a = 16 * is.length := ⟨_, rfl⟩
      obtain ⟨a7, ha7⟩ : ∃ a : Nat, a = a5 + a6 := ⟨_, rfl⟩
      have f1 : IntKind.i64.wrap ((n : Int) + 4) = a1 := by rw [wrap_of _ (by omega) (by omega)]; omega
      have f2 : IntKind.i64.wrap ((a1 : Int) + ((str nm).size : Int)) = a2 := by rw [str_size, wrap_of _ (by omega) (by omega)]; omega
      have f3 : IntKind.i64.wrap (4 + (ps.length : Int)) = a3 := by rw [wrap_of _ (by omega) (by omega)]; omega
      have f4 : IntKind.i64.wrap (8 * (a3 : Int)) = a4 := by rw [wrap_of _ (by omega) (by omega)]; omega
      have f5 : IntKind.i64.wrap ((a2 : Int) + a4) = a5 := by rw [wrap_of _ (by omega) (by omega)]; omega
      have f6 : IntKind.i64.wrap (16 * (is.length : Int)) = a6 := by rw [wrap_of _ (by omega) (by omega)]; omega
      have f7 : IntKind.i64.wrap ((a5 : Int) + a6) = a7 := by rw [wrap_of _ (by omega) (by omega)]; omega
      have hn2 : Hid (a7 = 12 + szCs ((cs.map Co.data).take (k + 1))) := by
        have := hn.out; unfold Co.data at *; exact hid (by omega)
      replace ha1 := hid ha1
      replace ha2 := hid ha2
      replace ha3 := hid ha3
      replace ha4 := hid ha4
      replace ha5 := hid ha5
      replace ha6 := hid ha6
      replace ha7 := hid ha7
      replace hst := hid hst
      replace htk := hid htk
      replace hnb := hid hnb
      have i0 : (0 : Int) ≤ k := by omega
      have i1 : (k : Int) < cs.length := by omega
      have y0 := fun W (hW : Below wr.heap.size wr W) => cell_on hW x0
      have y1 := fun W (hW : Below wr.heap.size wr W) => cell_on hW x1
      have y4 := fun W (hW : Below wr.heap.size wr W) => cell_on hW x4
      have q0 := fun W (hW : Below wr.heap.size wr W) => cell_on hW C0
      replace R := hid R
      clear x2 x3
      go_upto_region 11 with fail
      have bcur := (Below.refl wr.heap.size wr).drew
      refine wp_region_noPanic ?_
      refine wp_region_held_drew (S := (fun W => Below wr.heap.size wr W)) (by kernel_rfl) ?_ (fun hHeld => ?_)
      · exact (Below.refl _ _).drew
      refine wpAnyH_take (i := 0) (oi := ?oi1) (v := ?v1) ?hi1 (by kernel_rfl) (by kernel_rfl) (by kernel_rfl) ?hQ1 ?hy1 (by assumption) ?hrest1
      case hi1 => (simp only [List.getElem?_toArray, List.getElem?_cons_zero]; try rfl)
      case hQ1 => exact fun _ _ _ h => h
      case hy1 =>
        refine Or.inl ⟨by rfl, ?_⟩
        (intro wq hSw; (try dsimp only at hSw); go_simp; try with_reducible rfl)
      (try simp only [Act.put, List.setIfInBounds_toArray, List.set_cons_zero, List.set_cons_succ])
      refine wpAnyH_take (i := 1) (oi := ?oi2) (v := ?v2) ?hi2 (by kernel_rfl) (by kernel_rfl) (by kernel_rfl) ?hQ2 ?hy2 (by assumption) ?hrest2
      case hi2 => (simp only [List.getElem?_toArray, List.getElem?_cons_succ, List.getElem?_cons_zero]; try rfl)
      case hQ2 => exact fun _ _ _ h => h
      case hy2 =>
        refine Or.inl ⟨by rfl, ?_⟩
        (intro wq hSw; (try dsimp only at hSw); go_simp; try with_reducible rfl)
      (try simp only [Act.put, List.setIfInBounds_toArray, List.set_cons_zero, List.set_cons_succ])
      refine wpAnyH_take (i := 2) (oi := ?oi3) (v := ?v3) ?hi3 (by kernel_rfl) (by kernel_rfl) (by kernel_rfl) ?hQ3 ?hy3 (by assumption) ?hrest3
      case hi3 => (simp only [List.getElem?_toArray, List.getElem?_cons_succ, List.getElem?_cons_zero]; try rfl)
      case hQ3 => exact fun _ _ _ h => h
      case hy3 =>
        refine Or.inl ⟨by rfl, ?_⟩
        (intro wq hSw; (try dsimp only at hSw); go_simp; try with_reducible rfl)
      (try simp only [Act.put, List.setIfInBounds_toArray, List.set_cons_zero, List.set_cons_succ])
      refine wpAnyH_take (i := 3) (oi := ?oi4) (v := ?v4) ?hi4 (by kernel_rfl) (by kernel_rfl) (by kernel_rfl) ?hQ4 ?hy4 (by assumption) ?hrest4
      case hi4 => (simp only [List.getElem?_toArray, List.getElem?_cons_succ, List.getElem?_cons_zero]; try rfl)
      case hQ4 => exact fun _ _ _ h => h
      case hy4 =>
        refine Or.inl ⟨by rfl, ?_⟩
        (intro wq hSw; (try dsimp only at hSw); go_simp; try with_reducible rfl)
      (try simp only [Act.put, List.setIfInBounds_toArray, List.set_cons_zero, List.set_cons_succ])
      refine wpAnyH_take (i := 4) (oi := ?oi5) (v := ?v5) ?hi5 (by kernel_rfl) (by kernel_rfl) (by kernel_rfl) ?hQ5 ?hy5 (by assumption) ?hrest5
      case hi5 => (simp only [List.getElem?_toArray, List.getElem?_cons_succ, List.getElem?_cons_zero]; try rfl)
      case hQ5 => exact fun _ _ _ h => h
      case hy5 =>
        refine Or.inl ⟨by rfl, ?_⟩
        (intro wq hSw; (try dsimp only at hSw); go_simp; try with_reducible rfl)
      (try simp only [Act.put, List.setIfInBounds_toArray, List.set_cons_zero, List.set_cons_succ])
      refine wpAnyH_take (i := 5) (oi := ?oi6) (v := ?v6) ?hi6 (by kernel_rfl) (by kernel_rfl) (by kernel_rfl) ?hQ6 ?hy6 (by assumption) ?hrest6
      case hi6 => (simp only [List.getElem?_toArray, List.getElem?_cons_succ, List.getElem?_cons_zero]; try rfl)
      case hQ6 => exact fun _ _ _ h => h
      case hy6 =>
        refine Or.inl ⟨by rfl, ?_⟩
        (intro wq hSw; (try dsimp only at hSw); go_simp; try with_reducible rfl)
      (try simp only [Act.put, List.setIfInBounds_toArray, List.set_cons_zero, List.set_cons_succ])
      refine wpAnyH_take (i := 6) (oi := ?oi7) (v := ?v7) ?hi7 (by kernel_rfl) (by kernel_rfl) (by kernel_rfl) ?hQ7 ?hy7 (by assumption) ?hrest7
      case hi7 => (simp only [List.getElem?_toArray, List.getElem?_cons_succ, List.getElem?_cons_zero]; try rfl)
      case hQ7 => exact fun _ _ _ h => h
      case hy7 =>
        refine Or.inl ⟨by rfl, ?_⟩
        (intro wq hSw; (try dsimp only at hSw); go_simp; try with_reducible rfl)
      (try simp only [Act.put, List.setIfInBounds_toArray, List.set_cons_zero, List.set_cons_succ])
      refine wpAnyH_take (i := 7) (oi := ?oi8) (v := ?v8) ?hi8 (by kernel_rfl) (by kernel_rfl) (by kernel_rfl) ?hQ8 ?hy8 (by assumption) ?hrest8
      case hi8 => (simp only [List.getElem?_toArray, List.getElem?_cons_succ, List.getElem?_cons_zero]; try rfl)
      case hQ8 => exact fun _ _ _ h => h
      case hy8 =>
        refine Or.inl ⟨by rfl, ?_⟩
        (intro wq hSw; (try dsimp only at hSw); go_simp; try with_reducible rfl)
      (try simp only [Act.put, List.setIfInBounds_toArray, List.set_cons_zero, List.set_cons_succ])
      refine wpAnyH_take (i := 8) (oi := ?oi9) (v := ?v9) ?hi9 (by kernel_rfl) (by kernel_rfl) (by kernel_rfl) ?hQ9 ?hy9 (by assumption) ?hrest9
      case hi9 => (simp only [List.getElem?_toArray, List.getElem?_cons_succ, List.getElem?_cons_zero]; try rfl)
      case hQ9 => exact fun _ _ _ h => h
      case hy9 =>
        refine Or.inl ⟨by rfl, ?_⟩
        (intro wq hSw; (try dsimp only at hSw); go_simp; try with_reducible rfl)
      (try simp only [Act.put, List.setIfInBounds_toArray, List.set_cons_zero, List.set_cons_succ])
      refine wpAnyH_take (i := 9) (oi := ?oi10) (v := ?v10) ?hi10 (by kernel_rfl) (by kernel_rfl) (by kernel_rfl) ?hQ10 ?hy10 (by assumption) ?hrest10
      case hi10 => (simp only [List.getElem?_toArray, List.getElem?_cons_succ, List.getElem?_cons_zero]; try rfl)
      case hQ10 => exact fun _ _ _ h => h
      case hy10 =>
        refine Or.inl ⟨by rfl, ?_⟩
        (intro wq hSw; (try dsimp only at hSw); go_simp; try with_reducible rfl)
      (try simp only [Act.put, List.setIfInBounds_toArray, List.set_cons_zero, List.set_cons_succ])
      refine wpAnyH_take (i := 10) (oi := ?oi11) (v := ?v11) ?hi11 (by kernel_rfl) (by kernel_rfl) (by kernel_rfl) ?hQ11 ?hy11 (by assumption) ?hrest11
      case hi11 => (simp only [List.getElem?_toArray, List.getElem?_cons_succ, List.getElem?_cons_zero]; try rfl)
      case hQ11 => exact fun _ _ _ h => h
      case hy11 =>
        refine Or.inl ⟨by rfl, ?_⟩
        (intro wq hSw; (try dsimp only at hSw); go_simp; try with_reducible rfl)
      (try simp only [Act.put, List.setIfInBounds_toArray, List.set_cons_zero, List.set_cons_succ])
      refine wpAnyH_take (i := 11) (oi := ?oi12) (v := ?v12) ?hi12 (by kernel_rfl) (by kernel_rfl) (by kernel_rfl) ?hQ12 ?hy12 (by assumption) ?hrest12
      case hi12 => (simp only [List.getElem?_toArray, List.getElem?_cons_succ, List.getElem?_cons_zero]; try rfl)
      case hQ12 => exact fun _ _ _ h => h
      case hy12 =>
        refine Or.inl ⟨by rfl, ?_⟩
        (intro wq hSw; (try dsimp only at hSw); go_simp; try with_reducible rfl)
      (try simp only [Act.put, List.setIfInBounds_toArray, List.set_cons_zero, List.set_cons_succ])
      refine wpAnyH_take (i := 12) (oi := ?oi13) (v := ?v13) ?hi13 (by kernel_rfl) (by kernel_rfl) (by kernel_rfl) ?hQ13 ?hy13 (by assumption) ?hrest13
      case hi13 => (simp only [List.getElem?_toArray, List.getElem?_cons_succ, List.getElem?_cons_zero]; try rfl)
      case hQ13 => exact fun _ _ _ h => h
      case hy13 =>
        refine Or.inl ⟨by rfl, ?_⟩
        (intro wq hSw; (try dsimp only at hSw); go_simp; try with_reducible rfl)
      (try simp only [Act.put, List.setIfInBounds_toArray, List.set_cons_zero, List.set_cons_succ])
      refine wpAnyH_take (i := 13) (oi := ?oi14) (v := ?v14) ?hi14 (by kernel_rfl) (by kernel_rfl) (by kernel_rfl) ?hQ14 ?hy14 (by assumption) ?hrest14
      case hi14 => (simp only [List.getElem?_toArray, List.getElem?_cons_succ, List.getElem?_cons_zero]; try rfl)
      case hQ14 => exact fun _ _ _ h => h
      case hy14 =>
        refine Or.inl ⟨by rfl, ?_⟩
        (intro wq hSw; (try dsimp only at hSw); go_simp; try with_reducible rfl)
      (try simp only [Act.put, List.setIfInBounds_toArray, List.set_cons_zero, List.set_cons_succ])
      refine wpAnyH_take (i := 14) (oi := ?oi15) (v := ?v15) ?hi15 (by kernel_rfl) (by kernel_rfl) (by kernel_rfl) ?hQ15 ?hy15 (by assumption) ?hrest15
      case hi15 => (simp only [List.getElem?_toArray, List.getElem?_cons_succ, List.getElem?_cons_zero]; try rfl)
      case hQ15 => exact fun _ _ _ h => h
      case hy15 =>
        refine Or.inl ⟨by rfl, ?_⟩
        (intro wq hSw; (try dsimp only at hSw); go_simp; try with_reducible rfl)
      (try simp only [Act.put, List.setIfInBounds_toArray, List.set_cons_zero, List.set_cons_succ])
      refine wpAnyH_take (i := 15) (oi := ?oi16) (v := ?v16) ?hi16 (by kernel_rfl) (by kernel_rfl) (by kernel_rfl) ?hQ16 ?hy16 (by assumption) ?hrest16
      case hi16 => (simp only [List.getElem?_toArray, List.getElem?_cons_succ, List.getElem?_cons_zero]; try rfl)
      case hQ16 => exact fun _ _ _ h => h
      case hy16 =>
        refine Or.inl ⟨by rfl, ?_⟩
        (intro wq hSw; (try dsimp only at hSw); go_simp; try with_reducible rfl)
      (try simp only [Act.put, List.setIfInBounds_toArray, List.set_cons_zero, List.set_cons_succ])
      refine wpAnyH_take (i := 16) (oi := ?oi17) (v := ?v17) ?hi17 (by kernel_rfl) (by kernel_rfl) (by kernel_rfl) ?hQ17 ?hy17 (by assumption) ?hrest17
      case hi17 => (simp only [List.getElem?_toArray, List.getElem?_cons_succ, List.getElem?_cons_zero]; try rfl)
      case hQ17 => exact fun _ _ _ h => h
      case hy17 =>
        refine Or.inl ⟨by rfl, ?_⟩
        (intro wq hSw; (try dsimp only at hSw); go_simp; try with_reducible rfl)
      (try simp only [Act.put, List.setIfInBounds_toArray, List.set_cons_zero, List.set_cons_succ])
      refine wpAnyH_take (i := 17) (oi := ?oi18) (v := ?v18) ?hi18 (by kernel_rfl) (by kernel_rfl) (by kernel_rfl) ?hQ18 ?hy18 (by assumption) ?hrest18
      case hi18 => (simp only [List.getElem?_toArray, List.getElem?_cons_succ, List.getElem?_cons_zero]; try rfl)
      case hQ18 => exact fun _ _ _ h => h
      case hy18 =>
        refine Or.inl ⟨by rfl, ?_⟩
        (intro wq hSw; (try dsimp only at hSw); go_simp; try with_reducible rfl)
      (try simp only [Act.put, List.setIfInBounds_toArray, List.set_cons_zero, List.set_cons_succ])
      refine wpAnyH_take (i := 18) (oi := ?oi19) (v := ?v19) ?hi19 (by kernel_rfl) (by kernel_rfl) (by kernel_rfl) ?hQ19 ?hy19 (by assumption) ?hrest19
      case hi19 => (simp only [List.getElem?_toArray, List.getElem?_cons_succ, List.getElem?_cons_zero]; try rfl)
      case hQ19 => exact fun _ _ _ h => h
      case hy19 =>
        refine Or.inl ⟨by rfl, ?_⟩
        (intro wq hSw; (try dsimp only at hSw); go_simp; try with_reducible rfl)
      (try simp only [Act.put, List.setIfInBounds_toArray, List.set_cons_zero, List.set_cons_succ])
      refine wpAnyH_take (i := 19) (oi := ?oi20) (v := ?v20) ?hi20 (by kernel_rfl) (by kernel_rfl) (by kernel_rfl) ?hQ20 ?hy20 (by assumption) ?hrest20
      case hi20 => (simp only [List.getElem?_toArray, List.getElem?_cons_succ, List.getElem?_cons_zero]; try rfl)
      case hQ20 => exact fun _ _ _ h => h
      case hy20 =>
        refine Or.inl ⟨by rfl, ?_⟩
        (intro wq hSw; (try dsimp only at hSw); go_simp; try with_reducible rfl)
      (try simp only [Act.put, List.setIfInBounds_toArray, List.set_cons_zero, List.set_cons_succ])
      refine wpAnyH_take (i := 20) (oi := ?oi21) (v := ?v21) ?hi21 (by kernel_rfl) (by kernel_rfl) (by kernel_rfl) ?hQ21 ?hy21 (by assumption) ?hrest21
      case hi21 => (simp only [List.getElem?_toArray, List.getElem?_cons_succ, List.getElem?_cons_zero]; try rfl)
      case hQ21 => exact fun _ _ _ h => h
      case hy21 =>
        refine Or.inl ⟨by rfl, ?_⟩
        (intro wq hSw; (try dsimp only at hSw); go_simp; try with_reducible rfl)
      (try simp only [Act.put, List.setIfInBounds_toArray, List.set_cons_zero, List.set_cons_succ])
      refine wpAnyH_take (i := 21) (oi := ?oi22) (v := ?v22) ?hi22 (by kernel_rfl) (by kernel_rfl) (by kernel_rfl) ?hQ22 ?hy22 (by assumption) ?hrest22
      case hi22 => (simp only [List.getElem?_toArray, List.getElem?_cons_succ, List.getElem?_cons_zero]; try rfl)
      case hQ22 => exact fun _ _ _ h => h
      case hy22 =>
        refine Or.inl ⟨by rfl, ?_⟩
        (intro wq hSw; (try dsimp only at hSw); go_simp; try with_reducible rfl)
      (try simp only [Act.put, List.setIfInBounds_toArray, List.set_cons_zero, List.set_cons_succ])
      refine wpAnyH_take (i := 22) (oi := ?oi23) (v := ?v23) ?hi23 (by kernel_rfl) (by kernel_rfl) (by kernel_rfl) ?hQ23 ?hy23 (by assumption) ?hrest23
      case hi23 => (simp only [List.getElem?_toArray, List.getElem?_cons_succ, List.getElem?_cons_zero]; try rfl)
      case hQ23 => exact fun _ _ _ h => h
      case hy23 =>
        refine Or.inl ⟨by rfl, ?_⟩
        (intro wq hSw; (try dsimp only at hSw); go_simp; try with_reducible rfl)
      (try simp only [Act.put, List.setIfInBounds_toArray, List.set_cons_zero, List.set_cons_succ])
      refine wpAnyH_take (i := 23) (oi := ?oi24) (v := ?v24) ?hi24 (by kernel_rfl) (by kernel_rfl) (by kernel_rfl) ?hQ24 ?hy24 (by assumption) ?hrest24
      case hi24 => (simp only [List.getElem?_toArray, List.getElem?_cons_succ, List.getElem?_cons_zero]; try rfl)
      case hQ24 => exact fun _ _ _ h => h
      case hy24 =>
        refine Or.inl ⟨by rfl, ?_⟩
        (intro wq hSw; (try dsimp only at hSw); go_simp; try with_reducible rfl)
      (try simp only [Act.put, List.setIfInBounds_toArray, List.set_cons_zero, List.set_cons_succ])
      refine wpAnyH_take (i := 24) (oi := ?oi25) (v := ?v25) ?hi25 (by kernel_rfl) (by kernel_rfl) (by kernel_rfl) ?hQ25 ?hy25 (by assumption) ?hrest25
      case hi25 => (simp only [List.getElem?_toArray, List.getElem?_cons_succ, List.getElem?_cons_zero]; try rfl)
      case hQ25 => exact fun _ _ _ h => h
      case hy25 =>
        refine Or.inl ⟨by rfl, ?_⟩
        (intro wq hSw; (try dsimp only at hSw); go_simp; try with_reducible rfl)
      (try simp only [Act.put, List.setIfInBounds_toArray, List.set_cons_zero, List.set_cons_succ])
      refine wpAnyH_take (i := 25) (oi := ?oi26) (v := ?v26) ?hi26 (by kernel_rfl) (by kernel_rfl) (by kernel_rfl) ?hQ26 ?hy26 (by assumption) ?hrest26
      case hi26 => (simp only [List.getElem?_toArray, List.getElem?_cons_succ, List.getElem?_cons_zero]; try rfl)
      case hQ26 => exact fun _ _ _ h => h
      case hy26 =>
        refine Or.inl ⟨by rfl, ?_⟩
        (intro wq hSw; (try dsimp only at hSw); go_simp; try with_reducible rfl)
      (try simp only [Act.put, List.setIfInBounds_toArray, List.set_cons_zero, List.set_cons_succ])
      refine wpAnyH_take (i := 26) (oi := ?oi27) (v := ?v27) ?hi27 (by kernel_rfl) (by kernel_rfl) (by kernel_rfl) ?hQ27 ?hy27 (by assumption) ?hrest27
      case hi27 => (simp only [List.getElem?_toArray, List.getElem?_cons_succ, List.getElem?_cons_zero]; try rfl)
      case hQ27 => exact fun _ _ _ h => h
      case hy27 =>
        refine Or.inl ⟨by rfl, ?_⟩
        (intro wq hSw; (try dsimp only at hSw); go_simp; try with_reducible rfl)
      (try simp only [Act.put, List.setIfInBounds_toArray, List.set_cons_zero, List.set_cons_succ])
      refine wpAnyH_take (i := 27) (oi := ?oi28) (v := ?v28) ?hi28 (by kernel_rfl) (by kernel_rfl) (by kernel_rfl) ?hQ28 ?hy28 (by assumption) ?hrest28
      case hi28 => (simp only [List.getElem?_toArray, List.getElem?_cons_succ, List.getElem?_cons_zero]; try rfl)
      case hQ28 => exact fun _ _ _ h => h
      case hy28 =>
        refine Or.inl ⟨by rfl, ?_⟩
        (intro wq hSw; (try dsimp only at hSw); go_simp; try with_reducible rfl)
      (try simp only [Act.put, List.setIfInBounds_toArray, List.set_cons_zero, List.set_cons_succ])
      refine wpAnyH_take (i := 28) (oi := ?oi29) (v := ?v29) ?hi29 (by kernel_rfl) (by kernel_rfl) (by kernel_rfl) ?hQ29 ?hy29 (by assumption) ?hrest29
      case hi29 => (simp only [List.getElem?_toArray, List.getElem?_cons_succ, List.getElem?_cons_zero]; try rfl)
      case hQ29 => exact fun _ _ _ h => h
      case hy29 =>
        refine Or.inl ⟨by rfl, ?_⟩
        (intro wq hSw; (try dsimp only at hSw); go_simp; try with_reducible rfl)
      (try simp only [Act.put, List.setIfInBounds_toArray, List.set_cons_zero, List.set_cons_succ])
      refine wpAnyH_take (i := 29) (oi := ?oi30) (v := ?v30) ?hi30 (by kernel_rfl) (by kernel_rfl) (by kernel_rfl) ?hQ30 ?hy30 (by assumption) ?hrest30
      case hi30 => (simp only [List.getElem?_toArray, List.getElem?_cons_succ, List.getElem?_cons_zero]; try rfl)
      case hQ30 => exact fun _ _ _ h => h
      case hy30 =>
        refine Or.inl ⟨by rfl, ?_⟩
        (intro wq hSw; (try dsimp only at hSw); go_simp; try with_reducible rfl)
      (try simp only [Act.put, List.setIfInBounds_toArray, List.set_cons_zero, List.set_cons_succ])
      refine wpAnyH_done (by kernel_rfl) ?_ _
      refine NoPanic.normal ?_
      (skip)
      have b9 := below_step hb bcur
      go_wp2_with fail
      go_roundw
      case rel => exact ⟨k + 1, a7, by omega, by go_num, rfl, hn2, b9⟩
      case measure => simp [RowKit.intOf]; omega
    · obtain rfl : k = cs.length := by omega
      rw [List.take_of_length_le (by simp)] at hn
      obtain ⟨n0, hn0⟩ : ∃ x : Nat, x = n := ⟨_, rfl⟩
      obtain ⟨w5, hw5⟩ : ∃ x : World, x = wr := ⟨_, rfl⟩
      rw [← hn0] at hn ⊢
      rw [← hw5] at hb R C0 C1 ⊢
      clear hn0 hw5
      go_wp2_with fail
      go_loopw [6, 8] (fun s i W => ∃ (k : Nat) (n : Nat), k ≤ ts.length ∧ i = .int .i64 k ∧ s = .int .i64 n ∧ Hid (n = n0 + szTs ((ts.map SlR.l).take k)) ∧ Below w5.heap.size w5 W) (fun _ i _ => ts.length - (RowKit.intOf i).toNat)
      case atStart => exact ⟨0, n0, by omega, rfl, rfl, hid (by simp [szTs]), Below.refl _ _⟩
      case round =>
        obtain ⟨k, n, hk, rfl, hs, hn2, hb2⟩ := hrel
        subst hs
        have R2 := R.below hb2
        have b02 := below_step hb hb2
        clear R C1 C0
        have C1 := (R2.2 1 _ rfl).1
        have R := hid R2
        clear R2
        by_cases hlt : k < ts.length
        · obtain ⟨ad, rfl, x0⟩ := tx_at (h4.out.t.below b02) k hlt
          have hst := szTs_step ts k hlt
          have htk := szTs_take (ts.map SlR.l) (k + 1)
          generalize ts[k] = x at x0 hst
          obtain ⟨A, c, l⟩ := x
          unfold SlR.val at x0
          dsimp only at x0 hst
          obtain ⟨a1, ha1⟩ : ∃ a : Nat, a = n + 4 := ⟨_, rfl⟩
          obtain ⟨a2, ha2⟩ : ∃ a : Nat, a = a1 + l.length := ⟨_, rfl⟩
          have hnb : a2 ≤ 17000000 := by have := hn.out; have := hn2.out; have := hlen2.out; omega
          have f1 : IntKind.i64.wrap ((n : Int) + 4) = a1 := by rw [wrap_of _ (by omega) (by omega)]; omega
          have f2 : IntKind.i64.wrap ((a1 : Int) + l.length) = a2 := by rw [wrap_of _ (by omega) (by omega)]; omega
          have hn3 : Hid (a2 = n0 + szTs ((ts.map SlR.l).take (k + 1))) := by have := hn2.out; exact hid (by omega)
          replace ha1 := hid ha1
          replace ha2 := hid ha2
          replace hst := hid hst
          replace htk := hid htk
          have i0 : (0 : Int) ≤ k := by omega
          have i1 : (k : Int) < ts.length := by omega
          go_wp2_with fail
          go_roundw
          case rel => exact ⟨k + 1, a2, by omega, by go_num, rfl, hn3, hb2⟩
          case measure => simp [RowKit.intOf]; omega
        · obtain rfl : k = ts.length := by omega
          rw [List.take_of_length_le (by simp)] at hn2
          have hfin : (L : Int) = n := by have := hn.out; have := hn2.out; have := hlen2.out; omega
          have hfe : ((L : Int) == n) = true := by simpa using hfin
          replace hfin := hid hfin
          have b9 := below_step b0 b02
          go_wp2_with fail
          go_ret
          exact ⟨rfl, b9⟩
end Go.Proofs.YtnkocbdbfkhgmaaDoor
