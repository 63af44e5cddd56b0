import Derived.Test.YtengfmcfklakbaaDoorSealF
import Derived.Deep.RegionHeld3
import Derived.Deep.QuietTactic
import Derived.BigQuiet
namespace Go.Proofs.YtengfmcfklakbaaDoor
open Go.RowKit Go.Cov
theorem below_drewN (w : World) (n : Nat) : Below w.heap.size w (w.drewN n) := by
  have h := Below.refl w.heap.size w
  exact ⟨h.os, h.tape, h.output, h.size, h.block⟩
theorem open_sealed (l : List UInt8) : openL (sealed l) = l ∧ openE (sealed l) = 0 := by
  have hl := sealed_length l
  have hd : (sealed l).drop 4 = l := rfl
  constructor
  · rw [openL, if_neg (by omega), if_pos (by rw [hd]), hd]
  · rw [openE, if_neg (by omega), if_pos (by rw [hd])]
theorem open_cases (l : List UInt8) : (openE l = 0 ∧ sealed (openL l) = l) ∨ (openL l = [] ∧ (openE l = 11 ∨ openE l = 21)) := by
  unfold openE openL
  by_cases h4 : l.length < 4
  · right; simp [h4]
  · by_cases hs : sealed (l.drop 4) = l
    · left; rw [if_neg h4, if_pos hs, if_neg h4, if_pos hs]; exact ⟨rfl, hs⟩
    · right; simp [h4, hs]
set_option maxRecDepth 100000 in
set_option maxHeartbeats 1600000 in
theorem back_law {A : Option Addr} {c : Nat} {l : List UInt8} {w : World} (h : Rd w A (l.map byt)) (hc : l.length ≤ c) (hl : l.length ≤ 140737488351232) (ht : Tab w) :
    Calls Tryd.prog 4 #[.slice A l.length c] w fun e w' => e = .returned (.bool true) ∧ Below w.heap.size w w' := by
  go_enter Tryd.func4, Tryd.ntmps4
  go_wp2_with fail
  refine (head_any ht).mono ?_
  rintro e w1 ⟨rfl, hb1⟩
  go_wp2_with fail
  refine (seal_any (h.below hb1) hl (ht.below hb1)).mono ?_
  rintro e w2 ⟨v2, rfl, hown2, hb2'⟩
  have hb2 := hb1.trans (hb2'.mono hb1.size)
  obtain ⟨A2, c2, rfl, hc2, _⟩ := own_shape hown2
  have r2 : Rd w2 A2 ((sealed l).map byt) := own_rd hown2
  go_wp2_with fail
  have Hl := hid (sealed_length l)
  rw [← sealed_length l]
  refine (open_any r2 (by rw [Hl.out]; exact hc2) (by rw [Hl.out]; omega) (ht.below hb2)).mono ?_
  rw [(open_sealed l).1, (open_sealed l).2]
  rintro e w3 ⟨v3, rfl, hown3, hb3'⟩
  have hb3 := hb2.trans (hb3'.mono hb2.size)
  obtain ⟨A3, c3, rfl, hc3, _⟩ := own_shape hown3
  have x1 := conv_bs (P := Tryd.prog) Tryd.underlying22 Tryd.underlying5 Tryd.underlying9 (own_rd hown3) c3
  have x2 := conv_bs (P := Tryd.prog) Tryd.underlying22 Tryd.underlying5 Tryd.underlying9 (h.below hb3) c
  go_wp2_with fail
  refine (seal_any (h.below hb3) hl (ht.below hb3)).mono ?_
  rintro e w4 ⟨v4, rfl, hown4, hb4'⟩
  have hb4 := hb3.trans (hb4'.mono hb3.size)
  obtain ⟨A4, c4, rfl, hc4, _⟩ := own_shape hown4
  have e4 : IntKind.i64.wrap ((l.length : Int) + 4) = ((4 + l.length : Nat) : Int) := by simp [IntKind.wrap, IntKind.signed, IntKind.bits]; omega
  clear x1 x2
  go_wp2_with fail
  refine (open_any (h.below hb4) hc (by omega) (ht.below hb4)).mono ?_
  rintro e w5 ⟨v5, rfl, hown5, hb5'⟩
  have hb5 := hb4.trans (hb5'.mono hb4.size)
  obtain ⟨A5, c5, rfl, hc5, _⟩ := own_shape hown5
  have r5 : Rd w5 A5 ((openL l).map byt) := own_rd hown5
  have hr5 := h.below hb5
  have ht5 := ht.below hb5
  go_wp2_with fail
  have hB0 : Below w5.heap.size w5 w5.drew := (Below.refl _ _).drew
  rcases open_cases l with ⟨hE, hs⟩ | ⟨_, hE⟩
  · have hol : (openL l).length ≤ 140737488351232 := by have := congrArg List.length hs; rw [sealed_length] at this; omega
    have hs' := hid hs
    clear hs
    rw [hE]
    revert r5 hol hs'
    generalize openL l = m
    intro r5 hol hs'
    have cl := fun W (hW : Below w5.heap.size w5 W) => conv_bs (P := Tryd.prog) Tryd.underlying22 Tryd.underlying5 Tryd.underlying9 (hr5.below hW) c
    have Hm := hid (sealed_length m)
    have cl0 := cl _ hB0
    have CL := hid cl
    clear cl
    have HB5 := hid hb5
    clear hown2 hown3 hown4 hown5 r2 hb1 hb2 hb2' hb3 hb3' hb4 hb4' hb5 hb5' e4 h hr5 ht Hl
    have HR5 := hid r5
    have HT5 := hid ht5
    clear r5 ht5
    have HB0 := hid hB0
    clear hB0
    have cl := CL.out
    have hB0 := HB0.out
    refine wp_region_noPanic ?_
    refine wp_region_held_drew (S := (fun W => Below w5.heap.size w5 W)) (by kernel_rfl) ?_ (fun hHeld => ?_)
    · (first | assumption | exact hB0)
    refine wpAnyH_take (i := 0) (oi := ?oi1) (v := ?v1) ?hi1 (by kernel_rfl) (by kernel_rfl) (by kernel_rfl) ?hQ1 ?hy1 (by assumption) ?hrest1
    case hi1 => (simp only [List.getElem?_toArray, List.getElem?_cons_zero]; try rfl)
    case hQ1 => exact fun _ _ _ h => h
    case hy1 =>
      refine Or.inl ⟨by rfl, ?_⟩
      (intro wq hSw; (try dsimp only at hSw); go_simp; try with_reducible rfl)
    (try simp only [Act.put, List.setIfInBounds_toArray, List.set_cons_zero, List.set_cons_succ])
    refine wpAnyH_take (i := 1) (oi := ?oi2) (v := ?v2) ?hi2 (by kernel_rfl) (by kernel_rfl) (by kernel_rfl) ?hQ2 ?hy2 (by assumption) ?hrest2
    case hi2 => (simp only [List.getElem?_toArray, List.getElem?_cons_succ, List.getElem?_cons_zero]; try rfl)
    case hQ2 => exact fun _ _ _ h => h
    case hy2 =>
      refine Or.inl ⟨by rfl, ?_⟩
      (intro wq hSw; (try dsimp only at hSw); go_simp; try with_reducible rfl)
    (try simp only [Act.put, List.setIfInBounds_toArray, List.set_cons_zero, List.set_cons_succ])
    refine wpAnyH_take (i := 2) (oi := ?oi3) (v := ?v3) ?hi3 (by kernel_rfl) (by kernel_rfl) (by kernel_rfl) ?hQ3 ?hy3 (by assumption) ?hrest3
    case hi3 => (simp only [List.getElem?_toArray, List.getElem?_cons_succ, List.getElem?_cons_zero]; try rfl)
    case hQ3 => exact fun _ _ _ h => h
    case hy3 =>
      refine Or.inl ⟨by rfl, ?_⟩
      (intro wq hSw; (try dsimp only at hSw); go_simp; try with_reducible rfl)
    (try simp only [Act.put, List.setIfInBounds_toArray, List.set_cons_zero, List.set_cons_succ])
    refine wpAnyH_take (i := 3) (oi := ?oi4) (v := ?v4) ?hi4 (by kernel_rfl) (by kernel_rfl) (by kernel_rfl) ?hQ4 ?hy4 (by assumption) ?hrest4
    case hi4 => (simp only [List.getElem?_toArray, List.getElem?_cons_succ, List.getElem?_cons_zero]; try rfl)
    case hQ4 => exact fun _ _ _ h => h
    case hy4 =>
      refine Or.inl ⟨by rfl, ?_⟩
      (intro wq hSw; (try dsimp only at hSw); go_simp; try with_reducible rfl)
    (try simp only [Act.put, List.setIfInBounds_toArray, List.set_cons_zero, List.set_cons_succ])
    refine wpAnyH_take (i := 4) (oi := ?oi5) (v := ?v5) ?hi5 (by kernel_rfl) (by kernel_rfl) (by kernel_rfl) ?hQ5 ?hy5 (by assumption) ?hrest5
    case hi5 => (simp only [List.getElem?_toArray, List.getElem?_cons_succ, List.getElem?_cons_zero]; try rfl)
    case hQ5 => exact fun _ _ _ h => h
    case hy5 =>
      refine Or.inl ⟨by rfl, ?_⟩
      (intro wq hSw; (try dsimp only at hSw); go_simp; try with_reducible rfl)
    (try simp only [Act.put, List.setIfInBounds_toArray, List.set_cons_zero, List.set_cons_succ])
    refine wpAnyH_take (i := 5) (oi := ?oi6) (v := ?v6) ?hi6 (by kernel_rfl) (by kernel_rfl) (by kernel_rfl) ?hQ6 ?hy6 (by assumption) ?hrest6
    case hi6 => (simp only [List.getElem?_toArray, List.getElem?_cons_succ, List.getElem?_cons_zero]; try rfl)
    case hQ6 => exact fun _ _ _ h => h
    case hy6 =>
      refine Or.inl ⟨by rfl, ?_⟩
      (intro wq hSw; (try dsimp only at hSw); go_simp; try with_reducible rfl)
    (try simp only [Act.put, List.setIfInBounds_toArray, List.set_cons_zero, List.set_cons_succ])
    refine wpAnyH_take (i := 8) (oi := ?oi7) (v := ?v7) ?hi7 (by kernel_rfl) (by kernel_rfl) (by kernel_rfl) ?hQ7 ?hy7 (by assumption) ?hrest7
    case hi7 => (simp only [List.getElem?_toArray, List.getElem?_cons_succ, List.getElem?_cons_zero]; try rfl)
    case hQ7 => exact fun _ _ _ h => h
    case hy7 =>
      refine Or.inl ⟨by rfl, ?_⟩
      (intro wq hSw; (try dsimp only at hSw); go_simp; try with_reducible rfl)
    (try simp only [Act.put, List.setIfInBounds_toArray, List.set_cons_zero, List.set_cons_succ])
    refine wpAnyH_take (i := 9) (oi := ?oi8) (v := ?v8) ?hi8 (by kernel_rfl) (by kernel_rfl) (by kernel_rfl) ?hQ8 ?hy8 (by assumption) ?hrest8
    case hi8 => (simp only [List.getElem?_toArray, List.getElem?_cons_succ, List.getElem?_cons_zero]; try rfl)
    case hQ8 => exact fun _ _ _ h => h
    case hy8 =>
      refine Or.inl ⟨by rfl, ?_⟩
      (intro wq hSw; (try dsimp only at hSw); go_simp; try with_reducible rfl)
    (try simp only [Act.put, List.setIfInBounds_toArray, List.set_cons_zero, List.set_cons_succ])
    refine wpAnyH_ready (rs := [6]) (by kernel_rfl) (by simp) ?_
    refine AllReadyH.cons (o := ?oi9) ?hi9 (fun K hK => ?hstep9) AllReadyH.nil
    case hi9 => (simp only [List.getElem?_toArray, List.getElem?_cons_succ, List.getElem?_cons_zero]; try rfl)
    go_simp
    (go_at_call 10; refine (seal_any (HR5.out.below (by assumption)) hol (HT5.out.below (by assumption))).mono ?_; rintro e w7 ⟨v7, rfl, hown7, hb7⟩; obtain ⟨A7, c7, hv7, _⟩ := own_shape hown7; subst hv7; have hB7 : Below w5.heap.size w5 w7 := Below.trans (by assumption) hb7; have cq := conv_bs (P := Tryd.prog) Tryd.underlying22 Tryd.underlying5 Tryd.underlying9 (l := sealed m) (own_rd hown7) c7; rw [Hm.out, hs'.out] at cq)
    refine hK.out _ _ ?_ (fun hHeld => ?_)
    · (first | assumption | exact hB0)
    clear hK K
    (try simp only [Act.put, List.setIfInBounds_toArray, List.set_cons_zero, List.set_cons_succ])
    refine wpAnyH_ready (rs := [7]) (by kernel_rfl) (by simp) ?_
    refine AllReadyH.cons (o := ?oi10) ?hi10 (fun K hK => ?hstep10) AllReadyH.nil
    case hi10 => (simp only [List.getElem?_toArray, List.getElem?_cons_succ, List.getElem?_cons_zero]; try rfl)
    go_simp
    refine hK.out _ _ ?_ (fun hHeld => ?_)
    · (first | assumption | exact hB0)
    clear hK K
    (try simp only [Act.put, List.setIfInBounds_toArray, List.set_cons_zero, List.set_cons_succ])
    refine wpAnyH_take (i := 10) (oi := ?oi11) (v := ?v11) ?hi11 (by kernel_rfl) (by kernel_rfl) (by kernel_rfl) ?hQ11 ?hy11 (by assumption) ?hrest11
    case hi11 => (simp only [List.getElem?_toArray, List.getElem?_cons_succ, List.getElem?_cons_zero]; try rfl)
    case hQ11 => exact fun _ _ _ h => h
    case hy11 =>
      refine Or.inl ⟨by rfl, ?_⟩
      (intro wq hSw; (try dsimp only at hSw); go_simp; try with_reducible rfl)
    (try simp only [Act.put, List.setIfInBounds_toArray, List.set_cons_zero, List.set_cons_succ])
    refine wpAnyH_take (i := 11) (oi := ?oi12) (v := ?v12) ?hi12 (by kernel_rfl) (by kernel_rfl) (by kernel_rfl) ?hQ12 ?hy12 (by assumption) ?hrest12
    case hi12 => (simp only [List.getElem?_toArray, List.getElem?_cons_succ, List.getElem?_cons_zero]; try rfl)
    case hQ12 => exact fun _ _ _ h => h
    case hy12 =>
      refine Or.inl ⟨by rfl, ?_⟩
      (intro wq hSw; (try dsimp only at hSw); go_simp; try with_reducible rfl)
    (try simp only [Act.put, List.setIfInBounds_toArray, List.set_cons_zero, List.set_cons_succ])
    refine wpAnyH_take (i := 12) (oi := ?oi13) (v := ?v13) ?hi13 (by kernel_rfl) (by kernel_rfl) (by kernel_rfl) ?hQ13 ?hy13 (by assumption) ?hrest13
    case hi13 => (simp only [List.getElem?_toArray, List.getElem?_cons_succ, List.getElem?_cons_zero]; try rfl)
    case hQ13 => exact fun _ _ _ h => h
    case hy13 =>
      refine Or.inl ⟨by rfl, ?_⟩
      (intro wq hSw; (try dsimp only at hSw); go_simp; try with_reducible rfl)
    (try simp only [Act.put, List.setIfInBounds_toArray, List.set_cons_zero, List.set_cons_succ])
    refine wpAnyH_take (i := 13) (oi := ?oi14) (v := ?v14) ?hi14 (by kernel_rfl) (by kernel_rfl) (by kernel_rfl) ?hQ14 ?hy14 (by assumption) ?hrest14
    case hi14 => (simp only [List.getElem?_toArray, List.getElem?_cons_succ, List.getElem?_cons_zero]; try rfl)
    case hQ14 => exact fun _ _ _ h => h
    case hy14 =>
      refine Or.inl ⟨by rfl, ?_⟩
      (intro wq hSw; (try dsimp only at hSw); go_simp; try with_reducible rfl)
    (try simp only [Act.put, List.setIfInBounds_toArray, List.set_cons_zero, List.set_cons_succ])
    refine wpAnyH_done (by kernel_rfl) ?_ _
    refine NoPanic.normal ?_
    all_goals go_wp2_with fail
    all_goals go_ret
    all_goals first | exact ⟨rfl, HB5.out.trans (hB7.mono HB5.out.size)⟩ | exact ⟨by simp, HB5.out.trans (hB7.mono HB5.out.size)⟩
  · rcases hE with hE | hE
    all_goals rw [hE]
    all_goals go_quiet (fail)
    all_goals go_wp2_with fail
    all_goals go_ret
    all_goals exact ⟨rfl, hb5.trans ((below_drewN _ _).mono hb5.size)⟩
end Go.Proofs.YtengfmcfklakbaaDoor
