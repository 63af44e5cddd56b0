import Derived.Test.YtnkocbdbfkhgmaaDoorCodeS
import Derived.Test.YtnkocbdbfkhgmaaDoorPlain1
/-! the ref's code: the next function -/
namespace Go.Proofs.YtnkocbdbfkhgmaaDoor
open Go.RowKit Go.Cov
theorem cnt_many {α : Type} {most n : Int} {g : List UInt8 → Int × Int → α × Int × Int} {l : List UInt8} {s s1 : Int × Int} (h : nx numR 0 l s = (n, s1)) : cnt most 111 g l s = getL g (manyD most n s1).toNat l (chk most 111 (n, s1)) := by
  unfold cnt manyD
  rw [h]
  dsimp only
  by_cases hz : (chk most 111 (n, s1)).2 = 0
  · rw [if_pos hz]
  · rw [if_neg hz, getL_err g _ l _ hz, getL_err g _ l _ hz]
theorem many_nat (most : Nat) (n : Int) (s : Int × Int) : ∃ N : Nat, manyD most n s = N ∧ N ≤ most := by
  unfold manyD
  by_cases hz : (chk most 111 (n, s)).2 = 0
  · rw [if_pos hz]
    have : 0 ≤ n ∧ n ≤ most := by
      by_cases hq : s.2 = 0 ∧ (n < 0 ∨ (most : Int) < n)
      · unfold chk at hz; rw [if_pos hq] at hz; exact absurd hz (by show ¬ ((111 : Int) = 0); decide)
      · unfold chk at hz; rw [if_neg hq] at hz
        have hz : s.2 = 0 := hz
        by_cases h1 : n < 0
        · exact absurd ⟨hz, .inl h1⟩ hq
        · by_cases h2 : (most : Int) < n
          · exact absurd ⟨hz, .inr h2⟩ hq
          · omega
    exact ⟨n.toNat, by omega, by omega⟩
  · rw [if_neg hz]; exact ⟨0, rfl, Nat.zero_le _⟩
set_option maxRecDepth 100000 in
set_option maxHeartbeats 25600000 in
theorem rrcode_any {w : World} {b c : Nat} {A : Option Addr} {l : List UInt8} {p0 : Int} (h : Rr w b A c l (p0, 0)) :
    Calls Tryd.prog 34 #[.pointer (some ⟨b, 0, none⟩)] w fun e w' => ∃ x : Co, e = .returned (.agg #[.string (str x.nm), .slice x.pA x.ps.length x.pc, .int .i64 x.res, .int .i64 x.slots, .slice x.iA x.is.length x.ic]) ∧ x.data = (getC l (p0, 0)).1 ∧ CoOwn w' w.heap.size x ∧ Rr w' b A c l (getC l (p0, 0)).2 ∧ Gro b b w w' := by
  have hAl := h.lt
  have hbw := h.row.1
  have b2 := below_alloc w (.cells #[.string ⟨#[]⟩, .slice none 0 0, .int .i64 0, .int .i64 0, .slice none 0 0] 46)
  have R2 := Row.new w [.string ⟨#[]⟩, .slice none 0 0, .int .i64 0, .int .i64 0, .slice none 0 0] 46
  obtain ⟨w2, hw2⟩ : ∃ w2, w.alloc (.cells #[.string ⟨#[]⟩, .slice none 0 0, .int .i64 0, .int .i64 0, .slice none 0 0] 46) = w2 := ⟨_, rfl⟩
  have n2 : w2.heap.size = w.heap.size + 1 := by rw [← hw2]; simp
  change Row (w.alloc (.cells #[.string ⟨#[]⟩, .slice none 0 0, .int .i64 0, .int .i64 0, .slice none 0 0] 46)) _ _ at R2
  rw [hw2] at b2 R2
  have b3 := below_alloc w2 (.cells #[.string ⟨#[]⟩, .slice none 0 0, .int .i64 0, .int .i64 0, .slice none 0 0] 46)
  have R3 := Row.new w2 [.string ⟨#[]⟩, .slice none 0 0, .int .i64 0, .int .i64 0, .slice none 0 0] 46
  obtain ⟨w3, hw3⟩ : ∃ w3, w2.alloc (.cells #[.string ⟨#[]⟩, .slice none 0 0, .int .i64 0, .int .i64 0, .slice none 0 0] 46) = w3 := ⟨_, rfl⟩
  have n3 : w3.heap.size = w.heap.size + 2 := by rw [← hw3]; simp [n2]
  change Row (w2.alloc (.cells #[.string ⟨#[]⟩, .slice none 0 0, .int .i64 0, .int .i64 0, .slice none 0 0] 46)) _ _ at R3
  rw [hw3, n2] at R3
  rw [hw3] at b3
  have b13 := below_step b2 b3
  have hR : Rc w w3 (w.heap.size + 2) w.heap.size (w.heap.size + 1) b (w.heap.size + 2) [.string ⟨#[]⟩, .slice none 0 0, .int .i64 0, .int .i64 0, .slice none 0 0] [] [.string ⟨#[]⟩, .slice none 0 0, .int .i64 0, .int .i64 0, .slice none 0 0] A c l (p0, 0) (fun _ => True) :=
    ⟨R2.below b3, fun hq => absurd rfl hq, R3, h.below b13, trivial, fun _ _ _ _ _ _ _ => trivial, by omega, by omega, hAl, Gro.of_below b13⟩
  clear R2 R3 b2 b3 b13
  have hcall := fun (W : World) (hW : Rd W A (l.map byt)) => rbytes_any hW h.cap h.len p0
  obtain ⟨nm, s1, hg1⟩ : ∃ n s, bytesR l p0 = (n, s) := ⟨_, _, rfl⟩
  have hgc := hid (getC_is l p0 hg1)
  rw [hg1] at hcall
  clear hg1
  obtain ⟨p1, e1⟩ := s1
  dsimp only at hcall
  have C2 := (hR.rr.row.2 2 _ rfl).1
  replace hR := hid hR
  go_enter Tryd.func34, Tryd.ntmps34
  go_upto_region 4 with fail
  clear hw2 hw3 n2 C2
  replace hR := hR.out
  have C0 := (hR.rr.row.2 0 _ rfl).1
  have C1 := (hR.rr.row.2 1 _ rfl).1
  have K0 := fun W (hW : Below w3.heap.size w3 W) => cell_on hW C0
  have K1 := fun W (hW : Below w3.heap.size w3 W) => cell_on hW C1
  replace n3 := hid n3
  have bcur := (Below.refl w3.heap.size w3).drew
  refine wp_region_noPanic ?_
  refine wp_region_held_drew (S := (fun W => Below w3.heap.size w3 W)) (by kernel_rfl) ?_ (fun hHeld => ?_)
  · exact (Below.refl _ _).drew
  refine wpAnyH_take (i := 0) (oi := ?oi1) (v := ?v1) ?hi1 (by kernel_rfl) (by kernel_rfl) (by kernel_rfl) ?hQ1 ?hy1 (by assumption) ?hrest1
  case hi1 => (simp only [List.getElem?_toArray, List.getElem?_cons_zero]; try rfl)
  case hQ1 => exact fun _ _ _ h => h
  case hy1 =>
    refine Or.inl ⟨by rfl, ?_⟩
    (intro wq hSw; (try dsimp only at hSw); go_simp; try with_reducible rfl)
  (try simp only [Act.put, List.setIfInBounds_toArray, List.set_cons_zero, List.set_cons_succ])
  refine wpAnyH_take (i := 1) (oi := ?oi2) (v := ?v2) ?hi2 (by kernel_rfl) (by kernel_rfl) (by kernel_rfl) ?hQ2 ?hy2 (by assumption) ?hrest2
  case hi2 => (simp only [List.getElem?_toArray, List.getElem?_cons_succ, List.getElem?_cons_zero]; try rfl)
  case hQ2 => exact fun _ _ _ h => h
  case hy2 =>
    refine Or.inl ⟨by rfl, ?_⟩
    (intro wq hSw; (try dsimp only at hSw); go_simp; try with_reducible rfl)
  (try simp only [Act.put, List.setIfInBounds_toArray, List.set_cons_zero, List.set_cons_succ])
  refine wpAnyH_take (i := 2) (oi := ?oi3) (v := ?v3) ?hi3 (by kernel_rfl) (by kernel_rfl) (by kernel_rfl) ?hQ3 ?hy3 (by assumption) ?hrest3
  case hi3 => (simp only [List.getElem?_toArray, List.getElem?_cons_succ, List.getElem?_cons_zero]; try rfl)
  case hQ3 => exact fun _ _ _ h => h
  case hy3 =>
    refine Or.inl ⟨by rfl, ?_⟩
    (intro wq hSw; (try dsimp only at hSw); go_simp; try with_reducible rfl)
  (try simp only [Act.put, List.setIfInBounds_toArray, List.set_cons_zero, List.set_cons_succ])
  refine wpAnyH_take (i := 3) (oi := ?oi4) (v := ?v4) ?hi4 (by kernel_rfl) (by kernel_rfl) (by kernel_rfl) ?hQ4 ?hy4 (by assumption) ?hrest4
  case hi4 => (simp only [List.getElem?_toArray, List.getElem?_cons_succ, List.getElem?_cons_zero]; try rfl)
  case hQ4 => exact fun _ _ _ h => h
  case hy4 =>
    refine Or.inl ⟨by rfl, ?_⟩
    (intro wq hSw; (try dsimp only at hSw); go_simp; try with_reducible rfl)
  (try simp only [Act.put, List.setIfInBounds_toArray, List.set_cons_zero, List.set_cons_succ])
  refine wpAnyH_take (i := 4) (oi := ?oi5) (v := ?v5) ?hi5 (by kernel_rfl) (by kernel_rfl) (by kernel_rfl) ?hQ5 ?hy5 (by assumption) ?hrest5
  case hi5 => (simp only [List.getElem?_toArray, List.getElem?_cons_succ, List.getElem?_cons_zero]; try rfl)
  case hQ5 => exact fun _ _ _ h => h
  case hy5 =>
    refine Or.inl ⟨by rfl, ?_⟩
    (intro wq hSw; (try dsimp only at hSw); go_simp; try with_reducible rfl)
  (try simp only [Act.put, List.setIfInBounds_toArray, List.set_cons_zero, List.set_cons_succ])
  refine wpAnyH_take (i := 5) (oi := ?oi6) (v := ?v6) ?hi6 (by kernel_rfl) (by kernel_rfl) (by kernel_rfl) ?hQ6 ?hy6 (by assumption) ?hrest6
  case hi6 => (simp only [List.getElem?_toArray, List.getElem?_cons_succ, List.getElem?_cons_zero]; try rfl)
  case hQ6 => exact fun _ _ _ h => h
  case hy6 =>
    refine Or.inl ⟨by rfl, ?_⟩
    (intro wq hSw; (try dsimp only at hSw); go_simp; try with_reducible rfl)
  (try simp only [Act.put, List.setIfInBounds_toArray, List.set_cons_zero, List.set_cons_succ])
  refine wpAnyH_take (i := 6) (oi := ?oi7) (v := ?v7) ?hi7 (by kernel_rfl) (by kernel_rfl) (by kernel_rfl) ?hQ7 ?hy7 (by assumption) ?hrest7
  case hi7 => (simp only [List.getElem?_toArray, List.getElem?_cons_succ, List.getElem?_cons_zero]; try rfl)
  case hQ7 => exact fun _ _ _ h => h
  case hy7 =>
    refine Or.inl ⟨by rfl, ?_⟩
    (intro wq hSw; (try dsimp only at hSw); go_simp; try with_reducible rfl)
  (try simp only [Act.put, List.setIfInBounds_toArray, List.set_cons_zero, List.set_cons_succ])
  refine wpAnyH_take (i := 7) (oi := ?oi8) (v := ?v8) ?hi8 (by kernel_rfl) (by kernel_rfl) (by kernel_rfl) ?hQ8 ?hy8 (by assumption) ?hrest8
  case hi8 => (simp only [List.getElem?_toArray, List.getElem?_cons_succ, List.getElem?_cons_zero]; try rfl)
  case hQ8 => exact fun _ _ _ h => h
  case hy8 =>
    refine Or.inl ⟨by rfl, ?_⟩
    (intro wq hSw; (try dsimp only at hSw); go_simp; try with_reducible rfl)
  (try simp only [Act.put, List.setIfInBounds_toArray, List.set_cons_zero, List.set_cons_succ])
  refine wpAnyH_ready (rs := [8]) (by kernel_rfl) (by simp) ?_
  refine AllReadyH.cons (o := ?oi9) ?hi9 (fun K hK => ?hstep9) AllReadyH.nil
  case hi9 => (simp only [List.getElem?_toArray, List.getElem?_cons_succ, List.getElem?_cons_zero]; try rfl)
  go_simp
  (refine (hcall _ (hR.rr.rd.below bcur)).mono ?_; rintro e wx ⟨vx, rfl, ownx, hbx⟩; have bcur := below_step bcur hbx)
  refine hK.out _ _ ?_ (fun hHeld => ?_)
  · exact bcur
  clear hK K
  (try dsimp only)
  refine wpAnyH_take (i := 9) (oi := ?oi10) (v := ?v10) ?hi10 (by kernel_rfl) (by kernel_rfl) (by kernel_rfl) ?hQ10 ?hy10 (by assumption) ?hrest10
  case hi10 => (simp only [List.getElem?_toArray, List.getElem?_cons_succ, List.getElem?_cons_zero]; try rfl)
  case hQ10 => exact fun _ _ _ h => h
  case hy10 =>
    refine Or.inl ⟨by rfl, ?_⟩
    (intro wq hSw; (try dsimp only at hSw); go_simp; try with_reducible rfl)
  (try simp only [Act.put, List.setIfInBounds_toArray, List.set_cons_zero, List.set_cons_succ])
  refine wpAnyH_take (i := 10) (oi := ?oi11) (v := ?v11) ?hi11 (by kernel_rfl) (by kernel_rfl) (by kernel_rfl) ?hQ11 ?hy11 (by assumption) ?hrest11
  case hi11 => (simp only [List.getElem?_toArray, List.getElem?_cons_succ, List.getElem?_cons_zero]; try rfl)
  case hQ11 => exact fun _ _ _ h => h
  case hy11 =>
    refine Or.inl ⟨by rfl, ?_⟩
    (intro wq hSw; (try dsimp only at hSw); go_simp; try with_reducible rfl)
  (try simp only [Act.put, List.setIfInBounds_toArray, List.set_cons_zero, List.set_cons_succ])
  refine wpAnyH_take (i := 11) (oi := ?oi12) (v := ?v12) ?hi12 (by kernel_rfl) (by kernel_rfl) (by kernel_rfl) ?hQ12 ?hy12 (by assumption) ?hrest12
  case hi12 => (simp only [List.getElem?_toArray, List.getElem?_cons_succ, List.getElem?_cons_zero]; try rfl)
  case hQ12 => exact fun _ _ _ h => h
  case hy12 =>
    refine Or.inl ⟨by rfl, ?_⟩
    (intro wq hSw; (try dsimp only at hSw); go_simp; try with_reducible rfl)
  (try simp only [Act.put, List.setIfInBounds_toArray, List.set_cons_zero, List.set_cons_succ])
  refine wpAnyH_take (i := 12) (oi := ?oi13) (v := ?v13) ?hi13 (by kernel_rfl) (by kernel_rfl) (by kernel_rfl) ?hQ13 ?hy13 (by assumption) ?hrest13
  case hi13 => (simp only [List.getElem?_toArray, List.getElem?_cons_succ, List.getElem?_cons_zero]; try rfl)
  case hQ13 => exact fun _ _ _ h => h
  case hy13 =>
    refine Or.inl ⟨by rfl, ?_⟩
    (intro wq hSw; (try dsimp only at hSw); go_simp; try with_reducible rfl)
  (try simp only [Act.put, List.setIfInBounds_toArray, List.set_cons_zero, List.set_cons_succ])
  refine wpAnyH_take (i := 13) (oi := ?oi14) (v := ?v14) ?hi14 (by kernel_rfl) (by kernel_rfl) (by kernel_rfl) ?hQ14 ?hy14 (by assumption) ?hrest14
  case hi14 => (simp only [List.getElem?_toArray, List.getElem?_cons_succ, List.getElem?_cons_zero]; try rfl)
  case hQ14 => exact fun _ _ _ h => h
  case hy14 =>
    refine Or.inl ⟨by rfl, ?_⟩
    (intro wq hSw; (try dsimp only at hSw); go_simp; try with_reducible rfl)
  (try simp only [Act.put, List.setIfInBounds_toArray, List.set_cons_zero, List.set_cons_succ])
  refine wpAnyH_take (i := 14) (oi := ?oi15) (v := ?v15) ?hi15 (by kernel_rfl) (by kernel_rfl) (by kernel_rfl) ?hQ15 ?hy15 (by assumption) ?hrest15
  case hi15 => (simp only [List.getElem?_toArray, List.getElem?_cons_succ, List.getElem?_cons_zero]; try rfl)
  case hQ15 => exact fun _ _ _ h => h
  case hy15 =>
    refine Or.inl ⟨by rfl, ?_⟩
    (intro wq hSw; (try dsimp only at hSw); go_simp; try with_reducible rfl)
  (try simp only [Act.put, List.setIfInBounds_toArray, List.set_cons_zero, List.set_cons_succ])
  refine wpAnyH_take (i := 15) (oi := ?oi16) (v := ?v16) ?hi16 (by kernel_rfl) (by kernel_rfl) (by kernel_rfl) ?hQ16 ?hy16 (by assumption) ?hrest16
  case hi16 => (simp only [List.getElem?_toArray, List.getElem?_cons_succ, List.getElem?_cons_zero]; try rfl)
  case hQ16 => exact fun _ _ _ h => h
  case hy16 =>
    refine Or.inl ⟨by rfl, ?_⟩
    (intro wq hSw; (try dsimp only at hSw); go_simp; try with_reducible rfl)
  (try simp only [Act.put, List.setIfInBounds_toArray, List.set_cons_zero, List.set_cons_succ])
  refine wpAnyH_done (by kernel_rfl) ?_ _
  refine NoPanic.normal ?_
  (skip)
  have hx := hR.on bcur
  have ownx' := ownx
  have C2 := (hx.rr.row.2 2 _ rfl).1
  have F2 := (hx.rr.row.2 2 _ rfl).2
  have G := (Gro.set b b 2 wx (.int .i64 e1)).trans (Gro.set b b 1 _ (.int .i64 p1))
  have R1 := hx.rr.set2 e1
  have C1x := (R1.row.2 1 _ rfl).1
  have F1x := (R1.row.2 1 _ rfl).2
  have hR4 := hx.next (R1.set1 p1) G
  have own4 := G.own ownx' (show b < w3.heap.size by rw [n3.out]; omega)
  replace hR4 := hid hR4
  replace own4 := hid own4
  clear hHeld C0 C1 K0 K1 hcall R1 G ownx ownx'
  replace hx := hid hx
  replace hR := hid hR
  go_upto_region 7 with fail
  clear C2 F2 C1x F1x hx hR
  replace hR4 := hR4.out
  replace own4 := own4.out
  obtain ⟨A1, c1, rfl, hc1, hm1, _⟩ := own_shape own4
  have RD := own_rd own4
  generalize World.setCell _ _ _ = w4 at hR4 own4 RD ⊢
  have CV := conv_name w4 RD c1
  clear own4 RD
  have CC := hR4.c2 0 _ rfl
  have F := hR4.f2 0 _ rfl
  replace hR4 := hid (hR4.set 0 (by simp) (.string (str nm)))
  go_upto_region 8 with fail
  clear CC F CV
  replace hR4 := hR4.out
  generalize World.setCell _ _ _ = w5 at hR4 ⊢
  simp only [List.set_cons_zero] at hR4
  -- how many parameters
  obtain ⟨n1, s1, g1⟩ : ∃ x s, nx numR 0 l (p1, e1) = (x, s) := ⟨_, _, rfl⟩
  have K := many_any hR4.rr 16
  rw [g1] at K
  have hc1 := hid (cnt_many (most := 16) (g := nx numR 0) g1)
  obtain ⟨N1, hN1, hN1m⟩ := many_nat 16 n1 s1
  dsimp only at K
  replace hN1 : manyD 16 n1 s1 = N1 := hN1
  rw [hN1] at K
  obtain ⟨t1, ht1⟩ : ∃ t, chk 16 111 (n1, s1) = t := ⟨_, rfl⟩
  rw [ht1] at K
  have hc1 : Hid (cnt 16 111 (nx numR 0) l (p1, e1) = getL (nx numR 0) N1 l t1) := by have := hc1.out; rw [hN1, ht1, Int.toNat_natCast] at this; exact hid this
  clear g1 hN1 ht1
  replace hR4 := hid hR4
  replace K := hid K
  go_wp2_with fail
  refine K.out.mono ?_
  rintro e w6 ⟨rfl, h6, G6⟩
  clear K
  replace hR4 := hR4.out.next h6 G6
  replace hR4 := hR4.to (Y := fun W => OwnEls tyEl W (w.heap.size + 2) 43 (.slice none 0 0) []) (OwnEls.nil _ _ _ _) (fun k W1 W2 hk hG _ hx => keep_elsc (fun _ => rfl) (Nat.le_refl _) hk hG hx)
  clear h6 G6
  replace hR4 := hid hR4
  go_wp2_with fail
  go_loopw [8] (fun i W => ∃ (j : Nat) (sk : Int × Int) (outs : List Int) (v : Value), i = .int .i64 j ∧ (j ≤ N1 ∧ outs.length = j) ∧ Hid (getL (nx numR 0) N1 l t1 = (outs ++ (getL (nx numR 0) (N1 - j) l sk).1, (getL (nx numR 0) (N1 - j) l sk).2)) ∧ Rc w W (w.heap.size + 2) w.heap.size (w.heap.size + 1) b (w.heap.size + 2) [.string ⟨#[]⟩, .slice none 0 0, .int .i64 0, .int .i64 0, .slice none 0 0] [] [.string (str nm), v, .int .i64 0, .int .i64 0, .slice none 0 0] A c l sk (fun W => OwnEls tyEl W (w.heap.size + 2) 43 v outs)) (fun i _ => N1 - (RowKit.intOf i).toNat)
  case atStart => exact ⟨0, t1, [], .slice none 0 0, rfl, ⟨by omega, rfl⟩, hid (by simp), hR4.out⟩
  case round =>
  obtain ⟨j, sk, outs, v, rfl, ⟨hj, hol⟩, hgl, hR⟩ := hrel
  replace hol := hid hol
  skip
  have C2 := (hR.rr.row.2 2 _ rfl).1
  go_upto_region 10 with fail
  go_cut [56] (fun sq wx => sq = .bool (decide (j < N1 ∧ sk.2 = 0)) ∧ wx = wr)
  case first =>
    by_cases hn : (j : Int) < (N1 : Int)
    · have jn : decide ((j : Int) < (N1 : Int)) = true := decide_eq_true hn
      have hn2 := hid (show j < N1 by omega)
      replace hR := hid hR
      go_wp2_with fail
      go_meet
      exact ⟨congrArg Value.bool (by by_cases hz : sk.2 = 0 <;> simp [hn2.out, hz]), rfl⟩
    · have jn : decide ((j : Int) < (N1 : Int)) = false := decide_eq_false hn
      have hn2 := hid (show ¬ j < N1 by omega)
      replace hR := hid hR
      go_wp2_with fail
      go_meet
      exact ⟨congrArg Value.bool (decide_eq_false (fun hh => hn2.out hh.1)).symm, rfl⟩
  case rest =>
  obtain ⟨rfl, rfl⟩ := hcut
  clear C2
  by_cases hgo : j < N1 ∧ sk.2 = 0
  case pos =>
    rw [decide_eq_true hgo]
    obtain ⟨hlt, hz⟩ := hgo
    obtain ⟨r, hr⟩ : ∃ r : Nat, N1 - j = r + 1 := ⟨N1 - j - 1, by omega⟩
    have hgs := hgl.out
    rw [hr, getL_ok (nx numR 0) r l sk hz] at hgs
    have hr2 : N1 - (j + 1) = r := by omega
    rw [← hr2] at hgs
    have KO := rcnum_any hR.rr
    obtain ⟨y, s2, hy⟩ : ∃ y s2, nx numR 0 l sk = (y, s2) := ⟨_, _, rfl⟩
    rw [hy] at KO hgs
    dsimp only at KO hgs
    clear hy
    replace KO := hid KO
    replace hgs := hid hgs
    replace hR := hid hR
    go_wp2_with fail
    refine KO.out.mono ?_
    rintro e wz ⟨rfl, h3, G3⟩
    replace hR := hR.out.next h3 G3
    replace hgs := hgs.out
    clear KO h3 G3
    have HGL := hid hgs
    clear hgs hgl hr hr2 hz
    replace hj := hid hj
    replace hlt := hid hlt
    have hown := hR.x
    have zB := hR.sz
    have bB := below_alloc wz (.cells #[.int .i64 y] 43)
    have rB := rd_box wz #[.int .i64 y] 43
    have hRB := hR.on bB
    have hE4 := hRB.x
    have CC := hR.c2 1 _ rfl
    replace hRB := hid hRB
    replace hR := hid hR
    have hj3 := hid (show outs.length ≤ 16 by have := hj.out; have := hlt.out; have := hol.out; omega)
    have hj4 := hj3.out
    replace zB := Nat.le_trans zB bB.size
    have z2 := hlt.out
    go_wp2_with (at_builtin; refine wpList_app rfl (.tmp 62) (.tmp 64) 42 rfl (w.heap.size + 2) 43 Tryd.underlying42 info_ty rfl (by decide) v outs.length (outs.flatMap tyEl.cells) rfl hE4.1 (some ⟨wz.heap.size, 0, none⟩) 1 1 [.int .i64 y] rfl rfl rB (by intro u hu; simp at hu; subst hu; rfl) (by omega) (by omega) zB ?_; intro v7 w7 own7 hg7 hat7; have E7 : OwnEls tyEl w7 (w.heap.size + 2) 43 v7 (outs ++ [y]) := ⟨by rw [List.length_append, List.flatMap_append, show List.flatMap tyEl.cells [y] = [.int .i64 y] from rfl]; exact own7, fun a ha p hp => by cases hp⟩; have hR7 := hRB.out.grown hg7 (fun k e => (own_lt hE4.1 e).1) (.inr rfl) (Y := fun W => OwnEls tyEl W (w.heap.size + 2) 43 v7 (outs ++ [y])) E7 (fun k W1 W2 hk hG _ hx => keep_elsc (fun _ => rfl) (Nat.le_refl _) hk hG hx); have CC7 := hR7.c2 1 _ rfl; have FF7 := hR7.f2 1 _ rfl; have hR8 := hR7.set 1 (by simp) v7; replace hR7 := hid hR7; replace hR8 := hid hR8; obtain ⟨A7, c7, rfl, _⟩ := own_shape own7)
    replace hR8 := hR8.out
    simp only [List.set_cons_zero, List.set_cons_succ] at hR8
    replace hR8 := hid hR8
    (try go_wp2_with fail)
    go_roundw
    case rel => exact ⟨j + 1, s2, outs ++ [y], _, by go_num, ⟨by have := hlt.out; omega, by rw [List.length_append]; simp [hol.out]⟩, hid (by rw [HGL.out, List.append_assoc]; rfl), hR8.out⟩
    case measure => have := hlt.out; simp [RowKit.intOf]; omega
  case neg =>
  rw [decide_eq_false hgo]
  have HEX : Hid (getL (nx numR 0) N1 l t1 = (outs, sk)) := by
    refine hid ?_
    rw [hgl.out]
    by_cases hz : sk.2 = 0
    · rw [show N1 - j = 0 by omega]; simp [getL]
    · rw [getL_err (nx numR 0) _ l sk hz]; simp
  clear hgl hgo hj hol
  obtain ⟨wn, hwn⟩ : ∃ x : World, x = wc := ⟨_, rfl⟩
  rw [← hwn] at hR ⊢
  clear hwn
  obtain ⟨A2, c2, rfl, hc2, hm2, _⟩ := own_shape hR.x.1
  obtain ⟨ps, hps⟩ : ∃ x, x = outs := ⟨_, rfl⟩
  obtain ⟨s2, hs2⟩ : ∃ x, x = sk := ⟨_, rfl⟩
  rw [← hps] at hR HEX
  rw [← hs2] at hR HEX
  clear hps hs2
  have hP := hid (hc1.out.trans HEX.out)
  clear HEX hc1
  -- a number
  obtain ⟨x3, s3, h3⟩ : ∃ x s, nx numR 0 l s2 = (x, s) := ⟨_, _, rfl⟩
  have K := rcnum_any hR.rr
  rw [h3] at K
  replace h3 := hid h3
  replace hR := hid hR
  replace K := hid K
  go_wp2_with fail
  refine K.out.mono ?_
  rintro e w6 ⟨rfl, h6, G6⟩
  clear K
  replace hR := hR.out.next h6 G6
  clear h6 G6
  -- a number
  obtain ⟨x4, s4, h4⟩ : ∃ x s, nx numR 0 l s3 = (x, s) := ⟨_, _, rfl⟩
  have K := rcnum_any hR.rr
  rw [h4] at K
  replace h4 := hid h4
  replace hR := hid hR
  replace K := hid K
  go_wp2_with fail
  refine K.out.mono ?_
  rintro e w6 ⟨rfl, h6, G6⟩
  clear K
  replace hR := hR.out.next h6 G6
  clear h6 G6
  have CC := hR.c2 2 _ rfl
  have F := hR.f2 2 _ rfl
  replace hR := hid (hR.set 2 (by simp) (.int .i64 x3))
  go_upto_region 17 with fail
  clear CC F
  replace hR := hR.out
  generalize World.setCell _ _ _ = w7 at hR ⊢
  simp only [List.set_cons_zero, List.set_cons_succ] at hR
  have CC := hR.c2 3 _ rfl
  have F := hR.f2 3 _ rfl
  replace hR := hid (hR.set 3 (by simp) (.int .i64 x4))
  go_upto_region 18 with fail
  clear CC F
  replace hR := hR.out
  generalize World.setCell _ _ _ = w7 at hR ⊢
  simp only [List.set_cons_zero, List.set_cons_succ] at hR
  -- how many instructions
  obtain ⟨n5, s5, g5⟩ : ∃ x s, nx numR 0 l s4 = (x, s) := ⟨_, _, rfl⟩
  have K := many_any hR.rr 16384
  rw [g5] at K
  have hc5 := hid (cnt_many (most := 16384) (g := getI) g5)
  obtain ⟨N5, hN5, hN5m⟩ := many_nat 16384 n5 s5
  dsimp only at K
  replace hN5 : manyD 16384 n5 s5 = N5 := hN5
  rw [hN5] at K
  obtain ⟨t5, ht5⟩ : ∃ t, chk 16384 111 (n5, s5) = t := ⟨_, rfl⟩
  rw [ht5] at K
  have hc5 : Hid (cnt 16384 111 getI l s4 = getL getI N5 l t5) := by have := hc5.out; rw [hN5, ht5, Int.toNat_natCast] at this; exact hid this
  clear g5 hN5 ht5
  replace hR := hid hR
  replace K := hid K
  go_wp2_with fail
  refine K.out.mono ?_
  rintro e w6 ⟨rfl, h6, G6⟩
  clear K
  replace hR := hR.out.next h6 G6
  replace hR := hR.more (Y := fun W => OwnEls inEl W (w.heap.size + 2) 50 (.slice none 0 0) []) (OwnEls.nil _ _ _ _) (fun k W1 W2 hk hG _ hx => keep_elsc (fun _ => rfl) (Nat.le_refl _) hk hG hx)
  clear h6 G6
  replace hR := hid hR
  go_wp2_with fail
  go_loopw [12] (fun i W => ∃ (j : Nat) (sk : Int × Int) (outs : List ID) (v : Value), i = .int .i64 j ∧ (j ≤ N5 ∧ outs.length = j) ∧ Hid (getL getI N5 l t5 = (outs ++ (getL getI (N5 - j) l sk).1, (getL getI (N5 - j) l sk).2)) ∧ Rc w W (w.heap.size + 2) w.heap.size (w.heap.size + 1) b (w.heap.size + 2) [.string ⟨#[]⟩, .slice none 0 0, .int .i64 0, .int .i64 0, .slice none 0 0] [] [.string (str nm), .slice A2 ps.length c2, .int .i64 x3, .int .i64 x4, v] A c l sk (fun W => (OwnEls tyEl W (w.heap.size + 2) 43 (.slice A2 ps.length c2) ps ∧ OwnEls inEl W (w.heap.size + 2) 50 v outs)) ∧ (∀ k, v.ownBlock = some k → (Value.slice A2 ps.length c2).ownBlock ≠ some k)) (fun i _ => N5 - (RowKit.intOf i).toNat)
  case atStart => exact ⟨0, t5, [], .slice none 0 0, rfl, ⟨by omega, rfl⟩, hid (by simp), hR.out, (fun k hk => by cases hk)⟩
  case round =>
  obtain ⟨j, sk, outs, v, rfl, ⟨hj, hol⟩, hgl, hR, hap⟩ := hrel
  replace hol := hid hol
  replace hap := hid hap
  have C2 := (hR.rr.row.2 2 _ rfl).1
  go_upto_region 20 with fail
  go_cut [86] (fun sq wx => sq = .bool (decide (j < N5 ∧ sk.2 = 0)) ∧ wx = wr)
  case first =>
    by_cases hn : (j : Int) < (N5 : Int)
    · have jn : decide ((j : Int) < (N5 : Int)) = true := decide_eq_true hn
      have hn2 := hid (show j < N5 by omega)
      replace hR := hid hR
      go_wp2_with fail
      go_meet
      exact ⟨congrArg Value.bool (by by_cases hz : sk.2 = 0 <;> simp [hn2.out, hz]), rfl⟩
    · have jn : decide ((j : Int) < (N5 : Int)) = false := decide_eq_false hn
      have hn2 := hid (show ¬ j < N5 by omega)
      replace hR := hid hR
      go_wp2_with fail
      go_meet
      exact ⟨congrArg Value.bool (decide_eq_false (fun hh => hn2.out hh.1)).symm, rfl⟩
  case rest =>
  obtain ⟨rfl, rfl⟩ := hcut
  clear C2
  by_cases hgo : j < N5 ∧ sk.2 = 0
  case pos =>
    rw [decide_eq_true hgo]
    obtain ⟨hlt, hz⟩ := hgo
    obtain ⟨r, hr⟩ : ∃ r : Nat, N5 - j = r + 1 := ⟨N5 - j - 1, by omega⟩
    have hgs := hgl.out
    rw [hr, getL_ok getI r l sk hz] at hgs
    have hr2 : N5 - (j + 1) = r := by omega
    rw [← hr2] at hgs
    have KO := rcnum_any hR.rr
    have hgI : (getI l sk) = (((nx numR 0 l sk).1, (nx numR 0 l (nx numR 0 l sk).2).1), (nx numR 0 l (nx numR 0 l sk).2).2) := rfl
    rw [hgI] at hgs
    obtain ⟨y1, sa, hy⟩ : ∃ y s2, nx numR 0 l sk = (y, s2) := ⟨_, _, rfl⟩
    rw [hy] at KO hgs
    dsimp only at KO hgs
    obtain ⟨y2, s2, hy2⟩ : ∃ y s2, nx numR 0 l sa = (y, s2) := ⟨_, _, rfl⟩
    rw [hy2] at hgs
    dsimp only at hgs
    clear hy hgI
    replace KO := hid KO
    replace hgs := hid hgs
    replace hR := hid hR
    replace hy2 := hid hy2
    go_wp2_with fail
    refine KO.out.mono ?_
    rintro e wy ⟨rfl, h3, G3⟩
    replace hR := hR.out.next h3 G3
    clear KO h3 G3
    have KO := rcnum_any hR.rr
    rw [hy2.out] at KO
    replace KO := hid KO
    replace hR := hid hR
    go_wp2_with fail
    refine KO.out.mono ?_
    rintro e wz ⟨rfl, h3, G3⟩
    replace hR := hR.out.next h3 G3
    replace hgs := hgs.out
    clear KO h3 G3
    have HGL := hid hgs
    clear hgs hgl hr hr2 hz
    replace hj := hid hj
    replace hlt := hid hlt
    have hown := hR.x.2
    have zB := hR.sz
    have bB := below_alloc wz (.cells #[.int .i64 y1, .int .i64 y2] 50)
    have rB := rd_box wz #[.int .i64 y1, .int .i64 y2] 50
    have hRB := hR.on bB
    have hE4 := hRB.x.2
    have CC := hR.c2 4 _ rfl
    replace hRB := hid hRB
    replace hR := hid hR
    have hj3 := hid (show outs.length ≤ 16384 by have := hj.out; have := hlt.out; have := hol.out; omega)
    have hj4 := hj3.out
    replace zB := Nat.le_trans zB bB.size
    have z2 := hlt.out
    go_wp2_with (at_builtin; refine wpList_app rfl (.tmp 94) (.tmp 98) 44 rfl (w.heap.size + 2) 50 Tryd.underlying44 info_ins rfl (by decide) v outs.length (outs.flatMap inEl.cells) rfl hE4.1 (some ⟨wz.heap.size, 0, none⟩) 1 1 [.int .i64 y1, .int .i64 y2] rfl rfl rB (by intro u hu; simp at hu; rcases hu with rfl | rfl <;> rfl) (by omega) (by omega) zB ?_; intro v7 w7 own7 hg7 hat7; have E7 : OwnEls inEl w7 (w.heap.size + 2) 50 v7 (outs ++ [(y1, y2)]) := ⟨by rw [List.length_append, List.flatMap_append, show List.flatMap inEl.cells [(y1, y2)] = [.int .i64 y1, .int .i64 y2] from rfl]; exact own7, fun a ha p hp => by cases hp⟩; have hR7 := hRB.out.grown hg7 (fun k e => (own_lt hE4.1 e).1) (.inr rfl) (Y := fun W => (OwnEls tyEl W (w.heap.size + 2) 43 (.slice A2 ps.length c2) ps ∧ OwnEls inEl W (w.heap.size + 2) 50 v7 (outs ++ [(y1, y2)]))) ⟨⟨own_apart' hRB.out.x.1.1 hg7 (fun k hk he => hap.out k he.symm hk), fun a ha p hp => by cases hp⟩, E7⟩ (fun k W1 W2 hk hG _ hx => ⟨keep_elsc (fun _ => rfl) (Nat.le_refl _) hk hG hx.1, keep_elsc (fun _ => rfl) (Nat.le_refl _) hk hG hx.2⟩); have hap7 : Hid (∀ k, v7.ownBlock = some k → (Value.slice A2 ps.length c2).ownBlock ≠ some k) := hid (fun k hk => by rcases hat7 with e | e; (exact hap.out k (e ▸ hk)); (intro e2; have h1 := (own_lt hRB.out.x.1.1 e2).2; rw [e] at hk; injection hk with hk; omega)); have CC7 := hR7.c2 4 _ rfl; have FF7 := hR7.f2 4 _ rfl; have hR8 := hR7.set 4 (by simp) v7; replace hR7 := hid hR7; replace hR8 := hid hR8; obtain ⟨A7, c7, rfl, _⟩ := own_shape own7)
    replace hR8 := hR8.out
    simp only [List.set_cons_zero, List.set_cons_succ] at hR8
    replace hR8 := hid hR8
    (try go_wp2_with fail)
    go_roundw
    case rel => exact ⟨j + 1, s2, outs ++ [(y1, y2)], _, by go_num, ⟨by have := hlt.out; omega, by rw [List.length_append]; simp [hol.out]⟩, hid (by rw [HGL.out, List.append_assoc]; rfl), hR8.out, hap7.out⟩
    case measure => have := hlt.out; simp [RowKit.intOf]; omega
  case neg =>
  rw [decide_eq_false hgo]
  have HEX : Hid (getL getI N5 l t5 = (outs, sk)) := by
    refine hid ?_
    rw [hgl.out]
    by_cases hz : sk.2 = 0
    · rw [show N5 - j = 0 by omega]; simp [getL]
    · rw [getL_err getI _ l sk hz]; simp
  clear hgl hgo hj hol
  obtain ⟨wn, hwn⟩ : ∃ x : World, x = wc := ⟨_, rfl⟩
  rw [← hwn] at hR ⊢
  clear hwn
  obtain ⟨A5, c5, rfl, hc5', hm5, _⟩ := own_shape hR.x.2.1
  have hI := hc5.out.trans HEX.out
  have hrc := hid (restC_is l hP.out h3.out h4.out hI)
  obtain ⟨f1, f2, f3, f4⟩ := hR.fin rfl
  replace f1 := hid f1
  replace f2 := hid f2
  replace f3 := hid f3
  replace f4 := hid f4
  replace hR := hid hR
  clear hI HEX hc5
  go_wp2_with (first | (refine wpList_load_lit (w.heap.size + 1) [.string (str nm), .slice A2 ps.length c2, .int .i64 x3, .int .i64 x4, .slice A5 outs.length c5] ?_ ?_ Tryd.underlying46 rfl (by kernel_rfl) ?_; (· rfl); (· exact hR.out.r2)) | (refine wpList_store_lit w.heap.size [.string (str nm), .slice A2 ps.length c2, .int .i64 x3, .int .i64 x4, .slice A5 outs.length c5] [.string ⟨#[]⟩, .slice none 0 0, .int .i64 0, .int .i64 0, .slice none 0 0] ?_ ?_ ?_ rfl (by kernel_rfl) rfl ?_; (· rfl); (· rfl); (· exact hR.out.r1)))
  replace f1 := f1.out
  refine bodyPost_ret (results_cell1 (k := 2) (t := 46) Tryd.results34 rfl f1 Tryd.underlying46 rfl (by kernel_rfl)) rfl ?_
  exact ⟨⟨nm, A2, c2, ps, x3, x4, A5, c5, outs⟩, rfl, by rw [hgc.out, hrc.out]; rfl, ⟨f3.out.1.mono (by omega), f3.out.2.mono (by omega)⟩, by rw [hgc.out, hrc.out]; exact f2.out, f4.out⟩
end Go.Proofs.YtnkocbdbfkhgmaaDoor
