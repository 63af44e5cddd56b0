import Derived.Test.YtnkocbdbfkhgmaaDoorCodeQ
import Derived.Test.YtnkocbdbfkhgmaaDoorCodeI
import Derived.Test.YtnkocbdbfkhgmaaDoorPlain1
/-! the ref's code: the reading's next number, how many -/
namespace Go.Proofs.YtnkocbdbfkhgmaaDoor
open Go.RowKit Go.Cov
set_option maxHeartbeats 3200000 in
theorem rcnum_any {w : World} {b c : Nat} {A : Option Addr} {l : List UInt8} {s : Int × Int} (h : Rr w b A c l s) :
    Calls Tryd.prog 58 #[.pointer (some ⟨b, 0, none⟩)] w fun e w' => e = .returned (.int .i64 (nx numR 0 l s).1) ∧ Rr w' b A c l (nx numR 0 l s).2 ∧ Gro b b w w' := by
  obtain ⟨p, er⟩ := s
  have C2 := (h.row.2 2 _ rfl).1
  by_cases hz : er = 0
  · subst hz
    rw [nx_ok]
    have hcall := fun (W : World) (hW : Rd W A (l.map byt)) => rnum_any hW h.cap h.len p
    unfold numR
    obtain ⟨n, p', e', hg⟩ : ∃ n p' e', getR l p 8 = (n, p', e') := ⟨_, _, _, rfl⟩
    rw [hg] at hcall ⊢
    clear hg
    have K0 := fun W (hW : Below w.heap.size w W) => cell_on hW (h.row.2 0 _ rfl).1
    have K1 := fun W (hW : Below w.heap.size w W) => cell_on hW (h.row.2 1 _ rfl).1
    go_enter Tryd.func58, Tryd.ntmps58
    go_upto_region 3 with fail
    clear C2
    have bcur := (Below.refl w.heap.size w).drew
    refine wp_region_noPanic ?_
    refine wp_region_held_drew (S := (fun W => Below w.heap.size w W)) (by kernel_rfl) ?_ (fun hHeld => ?_)
    · exact (Below.refl _ _).drew
    refine wpAnyH_take (i := 0) (oi := ?oi1) (v := ?v1) ?hi1 (by kernel_rfl) (by kernel_rfl) (by kernel_rfl) ?hQ1 ?hy1 (by assumption) ?hrest1
    case hi1 => (simp only [List.getElem?_toArray, List.getElem?_cons_zero]; try rfl)
    case hQ1 => exact fun _ _ _ h => h
    case hy1 =>
      refine Or.inl ⟨by rfl, ?_⟩
      (intro wq hSw; (try dsimp only at hSw); go_simp; try with_reducible rfl)
    (try simp only [Act.put, List.setIfInBounds_toArray, List.set_cons_zero, List.set_cons_succ])
    refine wpAnyH_take (i := 1) (oi := ?oi2) (v := ?v2) ?hi2 (by kernel_rfl) (by kernel_rfl) (by kernel_rfl) ?hQ2 ?hy2 (by assumption) ?hrest2
    case hi2 => (simp only [List.getElem?_toArray, List.getElem?_cons_succ, List.getElem?_cons_zero]; try rfl)
    case hQ2 => exact fun _ _ _ h => h
    case hy2 =>
      refine Or.inl ⟨by rfl, ?_⟩
      (intro wq hSw; (try dsimp only at hSw); go_simp; try with_reducible rfl)
    (try simp only [Act.put, List.setIfInBounds_toArray, List.set_cons_zero, List.set_cons_succ])
    refine wpAnyH_take (i := 2) (oi := ?oi3) (v := ?v3) ?hi3 (by kernel_rfl) (by kernel_rfl) (by kernel_rfl) ?hQ3 ?hy3 (by assumption) ?hrest3
    case hi3 => (simp only [List.getElem?_toArray, List.getElem?_cons_succ, List.getElem?_cons_zero]; try rfl)
    case hQ3 => exact fun _ _ _ h => h
    case hy3 =>
      refine Or.inl ⟨by rfl, ?_⟩
      (intro wq hSw; (try dsimp only at hSw); go_simp; try with_reducible rfl)
    (try simp only [Act.put, List.setIfInBounds_toArray, List.set_cons_zero, List.set_cons_succ])
    refine wpAnyH_take (i := 3) (oi := ?oi4) (v := ?v4) ?hi4 (by kernel_rfl) (by kernel_rfl) (by kernel_rfl) ?hQ4 ?hy4 (by assumption) ?hrest4
    case hi4 => (simp only [List.getElem?_toArray, List.getElem?_cons_succ, List.getElem?_cons_zero]; try rfl)
    case hQ4 => exact fun _ _ _ h => h
    case hy4 =>
      refine Or.inl ⟨by rfl, ?_⟩
      (intro wq hSw; (try dsimp only at hSw); go_simp; try with_reducible rfl)
    (try simp only [Act.put, List.setIfInBounds_toArray, List.set_cons_zero, List.set_cons_succ])
    refine wpAnyH_take (i := 4) (oi := ?oi5) (v := ?v5) ?hi5 (by kernel_rfl) (by kernel_rfl) (by kernel_rfl) ?hQ5 ?hy5 (by assumption) ?hrest5
    case hi5 => (simp only [List.getElem?_toArray, List.getElem?_cons_succ, List.getElem?_cons_zero]; try rfl)
    case hQ5 => exact fun _ _ _ h => h
    case hy5 =>
      refine Or.inl ⟨by rfl, ?_⟩
      (intro wq hSw; (try dsimp only at hSw); go_simp; try with_reducible rfl)
    (try simp only [Act.put, List.setIfInBounds_toArray, List.set_cons_zero, List.set_cons_succ])
    refine wpAnyH_take (i := 5) (oi := ?oi6) (v := ?v6) ?hi6 (by kernel_rfl) (by kernel_rfl) (by kernel_rfl) ?hQ6 ?hy6 (by assumption) ?hrest6
    case hi6 => (simp only [List.getElem?_toArray, List.getElem?_cons_succ, List.getElem?_cons_zero]; try rfl)
    case hQ6 => exact fun _ _ _ h => h
    case hy6 =>
      refine Or.inl ⟨by rfl, ?_⟩
      (intro wq hSw; (try dsimp only at hSw); go_simp; try with_reducible rfl)
    (try simp only [Act.put, List.setIfInBounds_toArray, List.set_cons_zero, List.set_cons_succ])
    refine wpAnyH_take (i := 6) (oi := ?oi7) (v := ?v7) ?hi7 (by kernel_rfl) (by kernel_rfl) (by kernel_rfl) ?hQ7 ?hy7 (by assumption) ?hrest7
    case hi7 => (simp only [List.getElem?_toArray, List.getElem?_cons_succ, List.getElem?_cons_zero]; try rfl)
    case hQ7 => exact fun _ _ _ h => h
    case hy7 =>
      refine Or.inl ⟨by rfl, ?_⟩
      (intro wq hSw; (try dsimp only at hSw); go_simp; try with_reducible rfl)
    (try simp only [Act.put, List.setIfInBounds_toArray, List.set_cons_zero, List.set_cons_succ])
    refine wpAnyH_take (i := 7) (oi := ?oi8) (v := ?v8) ?hi8 (by kernel_rfl) (by kernel_rfl) (by kernel_rfl) ?hQ8 ?hy8 (by assumption) ?hrest8
    case hi8 => (simp only [List.getElem?_toArray, List.getElem?_cons_succ, List.getElem?_cons_zero]; try rfl)
    case hQ8 => exact fun _ _ _ h => h
    case hy8 =>
      refine Or.inl ⟨by rfl, ?_⟩
      (intro wq hSw; (try dsimp only at hSw); go_simp; try with_reducible rfl)
    (try simp only [Act.put, List.setIfInBounds_toArray, List.set_cons_zero, List.set_cons_succ])
    refine wpAnyH_ready (rs := [8]) (by kernel_rfl) (by simp) ?_
    refine AllReadyH.cons (o := ?oi9) ?hi9 (fun K hK => ?hstep9) AllReadyH.nil
    case hi9 => (simp only [List.getElem?_toArray, List.getElem?_cons_succ, List.getElem?_cons_zero]; try rfl)
    go_simp
    (refine (hcall _ (h.rd.below bcur)).mono ?_; rintro e wx ⟨rfl, rfl⟩)
    refine hK.out _ _ ?_ (fun hHeld => ?_)
    · exact hHeld
    clear hK K
    (try dsimp only)
    refine wpAnyH_take (i := 9) (oi := ?oi10) (v := ?v10) ?hi10 (by kernel_rfl) (by kernel_rfl) (by kernel_rfl) ?hQ10 ?hy10 (by assumption) ?hrest10
    case hi10 => (simp only [List.getElem?_toArray, List.getElem?_cons_succ, List.getElem?_cons_zero]; try rfl)
    case hQ10 => exact fun _ _ _ h => h
    case hy10 =>
      refine Or.inl ⟨by rfl, ?_⟩
      (intro wq hSw; (try dsimp only at hSw); go_simp; try with_reducible rfl)
    (try simp only [Act.put, List.setIfInBounds_toArray, List.set_cons_zero, List.set_cons_succ])
    refine wpAnyH_take (i := 10) (oi := ?oi11) (v := ?v11) ?hi11 (by kernel_rfl) (by kernel_rfl) (by kernel_rfl) ?hQ11 ?hy11 (by assumption) ?hrest11
    case hi11 => (simp only [List.getElem?_toArray, List.getElem?_cons_succ, List.getElem?_cons_zero]; try rfl)
    case hQ11 => exact fun _ _ _ h => h
    case hy11 =>
      refine Or.inl ⟨by rfl, ?_⟩
      (intro wq hSw; (try dsimp only at hSw); go_simp; try with_reducible rfl)
    (try simp only [Act.put, List.setIfInBounds_toArray, List.set_cons_zero, List.set_cons_succ])
    refine wpAnyH_take (i := 11) (oi := ?oi12) (v := ?v12) ?hi12 (by kernel_rfl) (by kernel_rfl) (by kernel_rfl) ?hQ12 ?hy12 (by assumption) ?hrest12
    case hi12 => (simp only [List.getElem?_toArray, List.getElem?_cons_succ, List.getElem?_cons_zero]; try rfl)
    case hQ12 => exact fun _ _ _ h => h
    case hy12 =>
      refine Or.inl ⟨by rfl, ?_⟩
      (intro wq hSw; (try dsimp only at hSw); go_simp; try with_reducible rfl)
    (try simp only [Act.put, List.setIfInBounds_toArray, List.set_cons_zero, List.set_cons_succ])
    refine wpAnyH_take (i := 12) (oi := ?oi13) (v := ?v13) ?hi13 (by kernel_rfl) (by kernel_rfl) (by kernel_rfl) ?hQ13 ?hy13 (by assumption) ?hrest13
    case hi13 => (simp only [List.getElem?_toArray, List.getElem?_cons_succ, List.getElem?_cons_zero]; try rfl)
    case hQ13 => exact fun _ _ _ h => h
    case hy13 =>
      refine Or.inl ⟨by rfl, ?_⟩
      (intro wq hSw; (try dsimp only at hSw); go_simp; try with_reducible rfl)
    (try simp only [Act.put, List.setIfInBounds_toArray, List.set_cons_zero, List.set_cons_succ])
    refine wpAnyH_take (i := 13) (oi := ?oi14) (v := ?v14) ?hi14 (by kernel_rfl) (by kernel_rfl) (by kernel_rfl) ?hQ14 ?hy14 (by assumption) ?hrest14
    case hi14 => (simp only [List.getElem?_toArray, List.getElem?_cons_succ, List.getElem?_cons_zero]; try rfl)
    case hQ14 => exact fun _ _ _ h => h
    case hy14 =>
      refine Or.inl ⟨by rfl, ?_⟩
      (intro wq hSw; (try dsimp only at hSw); go_simp; try with_reducible rfl)
    (try simp only [Act.put, List.setIfInBounds_toArray, List.set_cons_zero, List.set_cons_succ])
    refine wpAnyH_take (i := 14) (oi := ?oi15) (v := ?v15) ?hi15 (by kernel_rfl) (by kernel_rfl) (by kernel_rfl) ?hQ15 ?hy15 (by assumption) ?hrest15
    case hi15 => (simp only [List.getElem?_toArray, List.getElem?_cons_succ, List.getElem?_cons_zero]; try rfl)
    case hQ15 => exact fun _ _ _ h => h
    case hy15 =>
      refine Or.inl ⟨by rfl, ?_⟩
      (intro wq hSw; (try dsimp only at hSw); go_simp; try with_reducible rfl)
    (try simp only [Act.put, List.setIfInBounds_toArray, List.set_cons_zero, List.set_cons_succ])
    refine wpAnyH_take (i := 15) (oi := ?oi16) (v := ?v16) ?hi16 (by kernel_rfl) (by kernel_rfl) (by kernel_rfl) ?hQ16 ?hy16 (by assumption) ?hrest16
    case hi16 => (simp only [List.getElem?_toArray, List.getElem?_cons_succ, List.getElem?_cons_zero]; try rfl)
    case hQ16 => exact fun _ _ _ h => h
    case hy16 =>
      refine Or.inl ⟨by rfl, ?_⟩
      (intro wq hSw; (try dsimp only at hSw); go_simp; try with_reducible rfl)
    (try simp only [Act.put, List.setIfInBounds_toArray, List.set_cons_zero, List.set_cons_succ])
    refine wpAnyH_done (by kernel_rfl) ?_ _
    refine NoPanic.normal ?_
    (generalize hwd : w.drew = wd at bcur ⊢; clear hwd; have hx := h.below bcur; have C2 := (hx.row.2 2 _ rfl).1; have F2 := (hx.row.2 2 _ rfl).2; have G := (Gro.of_below (b := b) (c := b) bcur).trans ((Gro.set b b 2 _ (.int .i64 e')).trans (Gro.set b b 1 _ (.int .i64 p'))); have R1 := hx.set2 e'; have C1 := (R1.row.2 1 _ rfl).1; have F1 := (R1.row.2 1 _ rfl).2; have R := R1.set1 p'; (go_wp2_with fail); go_ret; exact ⟨rfl, R, G⟩)
  · have hz1 : (er != 0) = true := by simp [hz]
    rw [nx, if_neg hz]
    go_enter Tryd.func58, Tryd.ntmps58
    go_wp2_with fail
    go_ret
    exact ⟨rfl, h, Gro.refl _ _ _⟩
/-- how many may come -/
def manyD (most n : Int) (s : Int × Int) : Int := if (chk most 111 (n, s)).2 = 0 then n else 0
set_option maxRecDepth 100000 in
set_option maxHeartbeats 3200000 in
theorem many_any {w : World} {b c : Nat} {A : Option Addr} {l : List UInt8} {s : Int × Int} (h : Rr w b A c l s) (most : Int) :
    Calls Tryd.prog 33 #[.pointer (some ⟨b, 0, none⟩), .int .i64 most] w fun e w' => e = .returned (.int .i64 (manyD most (nx numR 0 l s).1 (nx numR 0 l s).2)) ∧ Rr w' b A c l (chk most 111 (nx numR 0 l s)) ∧ Gro b b w w' := by
  have K := hid (rcnum_any h)
  obtain ⟨e5, s5, he5⟩ : ∃ e s1, nx numR 0 l s = (e, s1) := ⟨_, _, rfl⟩
  rw [he5] at K
  rw [he5]
  clear he5
  dsimp only at K ⊢
  obtain ⟨sc, hsc⟩ : ∃ sc, chk most 111 (e5, s5) = sc := ⟨_, rfl⟩
  unfold manyD
  rw [hsc]
  replace hsc := hid hsc
  go_enter Tryd.func33, Tryd.ntmps33
  go_wp2_with fail
  refine K.out.mono ?_
  rintro e w1 ⟨rfl, h1, G1⟩
  clear K
  go_upto_region 2 with fail
  go_cut [21] (fun s21 wx => s21 = .bool (decide (s5.2 = 0 ∧ (e5 < 0 ∨ most < e5))) ∧ wx = w1)
  case first =>
    obtain ⟨p5, r5⟩ := s5
    have C2 := (h1.row.2 2 _ rfl).1
    by_cases z5 : r5 = 0
    · subst z5
      by_cases n5 : e5 < 0
      · have j5 : decide (e5 < 0) = true := decide_eq_true n5
        go_wp2_with fail
        go_meet
        exact ⟨congrArg Value.bool (decide_eq_true ⟨trivial, .inl n5⟩).symm, rfl⟩
      · have j5 : decide (e5 < 0) = false := decide_eq_false n5
        go_wp2_with fail
        go_meet
        exact ⟨congrArg Value.bool (decide_eq_decide.2 ⟨fun h => ⟨trivial, .inr h⟩, fun h => h.2.resolve_left (by omega)⟩), rfl⟩
    · have y5 : (r5 == 0) = false := by simp [z5]
      go_wp2_with fail
      go_meet
      exact ⟨by simp [z5], rfl⟩
  case rest =>
  obtain ⟨rfl, rfl⟩ := hcut
  go_upto_if 21 with fail
  go_cut [5] (fun s5' wx => s5' = .int .i64 e5 ∧ Rr wx b A c l sc ∧ Gro b b wc wx)
  case first =>
    by_cases hz : s5.2 = 0 ∧ (e5 < 0 ∨ most < e5)
    · have hd : decide (s5.2 = 0 ∧ (e5 < 0 ∨ most < e5)) = true := decide_eq_true hz
      have F2 := (h1.row.2 2 _ rfl).2
      have C2 := (h1.row.2 2 _ rfl).1
      have hS := h1.set2 111
      have GS := Gro.set b b 2 wc (.int .i64 111)
      go_wp2_with fail
      go_meet
      refine ⟨rfl, ?_, GS⟩
      rw [← hsc.out]
      unfold chk
      rw [if_pos hz]
      exact hS
    · have hd : decide (s5.2 = 0 ∧ (e5 < 0 ∨ most < e5)) = false := decide_eq_false hz
      go_wp2_with fail
      go_meet
      refine ⟨rfl, ?_, Gro.refl _ _ _⟩
      rw [← hsc.out]
      unfold chk
      rw [if_neg hz]
      exact h1
  case rest =>
  obtain ⟨rfl, hc1, hG1⟩ := hcut
  replace G1 := G1.trans hG1
  clear hG1 h1
  obtain ⟨pc, ec⟩ := sc
  have C2 := (hc1.row.2 2 _ rfl).1
  replace hc1 := hid hc1
  replace G1 := hid G1
  by_cases hz : ec = 0
  · subst hz
    go_wp2_with fail
    go_ret
    exact ⟨rfl, hc1.out, G1.out⟩
  · have jz : (ec != 0) = true := by simp [hz]
    replace hz := hid hz
    go_wp2_with fail
    go_ret
    exact ⟨(by first | rfl | (rw [if_neg hz.out]; rfl)), hc1.out, G1.out⟩
end Go.Proofs.YtnkocbdbfkhgmaaDoor
