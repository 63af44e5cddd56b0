import Derived.Test.YtnkocbdbfkhgmaaDoorCodeB
import Derived.Test.YtnkocbdbfkhgmaaDoorPlain1
/-! code: the reader's next number -/
namespace Go.Proofs.YtnkocbdbfkhgmaaDoor
open Go.RowKit Go.Cov
set_option maxHeartbeats 3200000 in
theorem cnum_any {w : World} {b c : Nat} {A : Option Addr} {l : List UInt8} {s : Int × Int} (h : Rr w b A c l s) :
    Calls Tryd.prog 51 #[.pointer (some ⟨b, 0, none⟩)] w fun e w' => e = .returned (.int .i64 (nx numR 0 l s).1) ∧ Rr w' b A c l (nx numR 0 l s).2 ∧ Gro b b w w' := by
  obtain ⟨p, er⟩ := s
  have C2 := (h.row.2 2 _ rfl).1
  by_cases hz : er = 0
  · subst hz
    rw [nx_ok]
    have hcall := fun (W : World) (hW : Rd W A (l.map byt)) => num_any hW h.cap h.len p
    unfold numR
    obtain ⟨n, p', e', hg⟩ : ∃ n p' e', getR l p 8 = (n, p', e') := ⟨_, _, _, rfl⟩
    rw [hg] at hcall ⊢
    clear hg
    have C0 := (h.row.2 0 _ rfl).1
    have C1 := (h.row.2 1 _ rfl).1
    have F1 := (h.row.2 1 _ rfl).2
    have F2 := (h.row.2 2 _ rfl).2
    go_enter Tryd.func51, Tryd.ntmps51
    go_upto_region 3 with fail
    have bcur := (Below.refl w.heap.size w).drew
    refine wp_region_noPanic ?_
    refine wp_region_held_drew (S := (fun W => W.cell? ⟨b, 0, none⟩ = some (.slice A l.length c))) (by kernel_rfl) ?_ (fun hHeld => ?_)
    · exact C0
    refine wpAnyH_take (i := 0) (oi := ?oi1) (v := ?v1) ?hi1 (by kernel_rfl) (by kernel_rfl) (by kernel_rfl) ?hQ1 ?hy1 (by assumption) ?hrest1
    case hi1 => (simp only [List.getElem?_toArray, List.getElem?_cons_zero]; try rfl)
    case hQ1 => exact fun _ _ _ h => h
    case hy1 =>
      refine Or.inl ⟨by rfl, ?_⟩
      (intro wq hSw; (try dsimp only at hSw); go_simp; try with_reducible rfl)
    (try simp only [Act.put, List.setIfInBounds_toArray, List.set_cons_zero, List.set_cons_succ])
    refine wpAnyH_take (i := 1) (oi := ?oi2) (v := ?v2) ?hi2 (by kernel_rfl) (by kernel_rfl) (by kernel_rfl) ?hQ2 ?hy2 (by assumption) ?hrest2
    case hi2 => (simp only [List.getElem?_toArray, List.getElem?_cons_succ, List.getElem?_cons_zero]; try rfl)
    case hQ2 => exact fun _ _ _ h => h
    case hy2 =>
      refine Or.inl ⟨by rfl, ?_⟩
      (intro wq hSw; (try dsimp only at hSw); go_simp; try with_reducible rfl)
    (try simp only [Act.put, List.setIfInBounds_toArray, List.set_cons_zero, List.set_cons_succ])
    refine wpAnyH_take (i := 2) (oi := ?oi3) (v := ?v3) ?hi3 (by kernel_rfl) (by kernel_rfl) (by kernel_rfl) ?hQ3 ?hy3 (by assumption) ?hrest3
    case hi3 => (simp only [List.getElem?_toArray, List.getElem?_cons_succ, List.getElem?_cons_zero]; try rfl)
    case hQ3 => exact fun _ _ _ h => h
    case hy3 =>
      refine Or.inl ⟨by rfl, ?_⟩
      (intro wq hSw; (try dsimp only at hSw); go_simp; try with_reducible rfl)
    (try simp only [Act.put, List.setIfInBounds_toArray, List.set_cons_zero, List.set_cons_succ])
    refine wpAnyH_take (i := 3) (oi := ?oi4) (v := ?v4) ?hi4 (by kernel_rfl) (by kernel_rfl) (by kernel_rfl) ?hQ4 ?hy4 (by assumption) ?hrest4
    case hi4 => (simp only [List.getElem?_toArray, List.getElem?_cons_succ, List.getElem?_cons_zero]; try rfl)
    case hQ4 => exact fun _ _ _ h => h
    case hy4 =>
      refine Or.inl ⟨by rfl, ?_⟩
      (intro wq hSw; (try dsimp only at hSw); go_simp; try with_reducible rfl)
    (try simp only [Act.put, List.setIfInBounds_toArray, List.set_cons_zero, List.set_cons_succ])
    refine wpAnyH_take (i := 4) (oi := ?oi5) (v := ?v5) ?hi5 (by kernel_rfl) (by kernel_rfl) (by kernel_rfl) ?hQ5 ?hy5 (by assumption) ?hrest5
    case hi5 => (simp only [List.getElem?_toArray, List.getElem?_cons_succ, List.getElem?_cons_zero]; try rfl)
    case hQ5 => exact fun _ _ _ h => h
    case hy5 =>
      refine Or.inl ⟨by rfl, ?_⟩
      (intro wq hSw; (try dsimp only at hSw); go_simp; try with_reducible rfl)
    (try simp only [Act.put, List.setIfInBounds_toArray, List.set_cons_zero, List.set_cons_succ])
    refine wpAnyH_take (i := 5) (oi := ?oi6) (v := ?v6) ?hi6 (by kernel_rfl) (by kernel_rfl) (by kernel_rfl) ?hQ6 ?hy6 (by assumption) ?hrest6
    case hi6 => (simp only [List.getElem?_toArray, List.getElem?_cons_succ, List.getElem?_cons_zero]; try rfl)
    case hQ6 => exact fun _ _ _ h => h
    case hy6 =>
      refine Or.inl ⟨by rfl, ?_⟩
      (intro wq hSw; (try dsimp only at hSw); go_simp; try with_reducible rfl)
    (try simp only [Act.put, List.setIfInBounds_toArray, List.set_cons_zero, List.set_cons_succ])
    refine wpAnyH_take (i := 6) (oi := ?oi7) (v := ?v7) ?hi7 (by kernel_rfl) (by kernel_rfl) (by kernel_rfl) ?hQ7 ?hy7 (by assumption) ?hrest7
    case hi7 => (simp only [List.getElem?_toArray, List.getElem?_cons_succ, List.getElem?_cons_zero]; try rfl)
    case hQ7 => exact fun _ _ _ h => h
    case hy7 =>
      refine Or.inl ⟨by rfl, ?_⟩
      (intro wq hSw; (try dsimp only at hSw); go_simp; try with_reducible rfl)
    (try simp only [Act.put, List.setIfInBounds_toArray, List.set_cons_zero, List.set_cons_succ])
    refine wpAnyH_take (i := 7) (oi := ?oi8) (v := ?v8) ?hi8 (by kernel_rfl) (by kernel_rfl) (by kernel_rfl) ?hQ8 ?hy8 (by assumption) ?hrest8
    case hi8 => (simp only [List.getElem?_toArray, List.getElem?_cons_succ, List.getElem?_cons_zero]; try rfl)
    case hQ8 => exact fun _ _ _ h => h
    case hy8 =>
      refine Or.inl ⟨by rfl, ?_⟩
      (intro wq hSw; (try dsimp only at hSw); go_simp; try with_reducible rfl)
    (try simp only [Act.put, List.setIfInBounds_toArray, List.set_cons_zero, List.set_cons_succ])
    refine wpAnyH_take (i := 8) (oi := ?oi9) (v := ?v9) ?hi9 (by kernel_rfl) (by kernel_rfl) (by kernel_rfl) ?hQ9 ?hy9 (by assumption) ?hrest9
    case hi9 => (simp only [List.getElem?_toArray, List.getElem?_cons_succ, List.getElem?_cons_zero]; try rfl)
    case hQ9 => exact fun _ _ _ h => h
    case hy9 =>
      refine Or.inl ⟨by rfl, ?_⟩
      (intro wq hSw; (try dsimp only at hSw); go_simp; try with_reducible rfl)
    (try simp only [Act.put, List.setIfInBounds_toArray, List.set_cons_zero, List.set_cons_succ])
    refine wpAnyH_ready (rs := [9]) (by kernel_rfl) (by simp) ?_
    refine AllReadyH.cons (o := ?oi10) ?hi10 (fun K hK => ?hstep10) AllReadyH.nil
    case hi10 => (simp only [List.getElem?_toArray, List.getElem?_cons_succ, List.getElem?_cons_zero]; try rfl)
    go_simp
    (skip)
    refine hK.out _ _ ?_ (fun hHeld => ?_)
    · exact hHeld
    clear hK K
    (try simp only [Act.put, List.setIfInBounds_toArray, List.set_cons_zero, List.set_cons_succ])
    refine wpAnyH_ready (rs := [10]) (by kernel_rfl) (by simp) ?_
    refine AllReadyH.cons (o := ?oi11) ?hi11 (fun K hK => ?hstep11) AllReadyH.nil
    case hi11 => (simp only [List.getElem?_toArray, List.getElem?_cons_succ, List.getElem?_cons_zero]; try rfl)
    go_simp
    (refine (hcall _ (h.rd.below bcur)).mono ?_; rintro e wx ⟨rfl, rfl⟩)
    refine hK.out _ _ ?_ (fun hHeld => ?_)
    · exact hHeld
    clear hK K
    (try dsimp only)
    refine wpAnyH_take (i := 11) (oi := ?oi12) (v := ?v12) ?hi12 (by kernel_rfl) (by kernel_rfl) (by kernel_rfl) ?hQ12 ?hy12 (by assumption) ?hrest12
    case hi12 => (simp only [List.getElem?_toArray, List.getElem?_cons_succ, List.getElem?_cons_zero]; try rfl)
    case hQ12 => exact fun _ _ _ h => h
    case hy12 =>
      refine Or.inl ⟨by rfl, ?_⟩
      (intro wq hSw; (try dsimp only at hSw); go_simp; try with_reducible rfl)
    (try simp only [Act.put, List.setIfInBounds_toArray, List.set_cons_zero, List.set_cons_succ])
    refine wpAnyH_take (i := 12) (oi := ?oi13) (v := ?v13) ?hi13 (by kernel_rfl) (by kernel_rfl) (by kernel_rfl) ?hQ13 ?hy13 (by assumption) ?hrest13
    case hi13 => (simp only [List.getElem?_toArray, List.getElem?_cons_succ, List.getElem?_cons_zero]; try rfl)
    case hQ13 => exact fun _ _ _ h => h
    case hy13 =>
      refine Or.inl ⟨by rfl, ?_⟩
      (intro wq hSw; (try dsimp only at hSw); go_simp; try with_reducible rfl)
    (try simp only [Act.put, List.setIfInBounds_toArray, List.set_cons_zero, List.set_cons_succ])
    refine wpAnyH_take (i := 13) (oi := ?oi14) (v := ?v14) ?hi14 (by kernel_rfl) (by kernel_rfl) (by kernel_rfl) ?hQ14 ?hy14 (by assumption) ?hrest14
    case hi14 => (simp only [List.getElem?_toArray, List.getElem?_cons_succ, List.getElem?_cons_zero]; try rfl)
    case hQ14 => exact fun _ _ _ h => h
    case hy14 =>
      refine Or.inl ⟨by rfl, ?_⟩
      (intro wq hSw; (try dsimp only at hSw); go_simp; try with_reducible rfl)
    (try simp only [Act.put, List.setIfInBounds_toArray, List.set_cons_zero, List.set_cons_succ])
    refine wpAnyH_take (i := 14) (oi := ?oi15) (v := ?v15) ?hi15 (by kernel_rfl) (by kernel_rfl) (by kernel_rfl) ?hQ15 ?hy15 (by assumption) ?hrest15
    case hi15 => (simp only [List.getElem?_toArray, List.getElem?_cons_succ, List.getElem?_cons_zero]; try rfl)
    case hQ15 => exact fun _ _ _ h => h
    case hy15 =>
      refine Or.inl ⟨by rfl, ?_⟩
      (intro wq hSw; (try dsimp only at hSw); go_simp; try with_reducible rfl)
    (try simp only [Act.put, List.setIfInBounds_toArray, List.set_cons_zero, List.set_cons_succ])
    refine wpAnyH_take (i := 15) (oi := ?oi16) (v := ?v16) ?hi16 (by kernel_rfl) (by kernel_rfl) (by kernel_rfl) ?hQ16 ?hy16 (by assumption) ?hrest16
    case hi16 => (simp only [List.getElem?_toArray, List.getElem?_cons_succ, List.getElem?_cons_zero]; try rfl)
    case hQ16 => exact fun _ _ _ h => h
    case hy16 =>
      refine Or.inl ⟨by rfl, ?_⟩
      (intro wq hSw; (try dsimp only at hSw); go_simp; try with_reducible rfl)
    (try simp only [Act.put, List.setIfInBounds_toArray, List.set_cons_zero, List.set_cons_succ])
    refine wpAnyH_take (i := 16) (oi := ?oi17) (v := ?v17) ?hi17 (by kernel_rfl) (by kernel_rfl) (by kernel_rfl) ?hQ17 ?hy17 (by assumption) ?hrest17
    case hi17 => (simp only [List.getElem?_toArray, List.getElem?_cons_succ, List.getElem?_cons_zero]; try rfl)
    case hQ17 => exact fun _ _ _ h => h
    case hy17 =>
      refine Or.inl ⟨by rfl, ?_⟩
      (intro wq hSw; (try dsimp only at hSw); go_simp; try with_reducible rfl)
    (try simp only [Act.put, List.setIfInBounds_toArray, List.set_cons_zero, List.set_cons_succ])
    refine wpAnyH_take (i := 17) (oi := ?oi18) (v := ?v18) ?hi18 (by kernel_rfl) (by kernel_rfl) (by kernel_rfl) ?hQ18 ?hy18 (by assumption) ?hrest18
    case hi18 => (simp only [List.getElem?_toArray, List.getElem?_cons_succ, List.getElem?_cons_zero]; try rfl)
    case hQ18 => exact fun _ _ _ h => h
    case hy18 =>
      refine Or.inl ⟨by rfl, ?_⟩
      (intro wq hSw; (try dsimp only at hSw); go_simp; try with_reducible rfl)
    (try simp only [Act.put, List.setIfInBounds_toArray, List.set_cons_zero, List.set_cons_succ])
    refine wpAnyH_ready (rs := [18]) (by kernel_rfl) (by simp) ?_
    refine AllReadyH.cons (o := ?oi19) ?hi19 (fun K hK => ?hstep19) AllReadyH.nil
    case hi19 => (simp only [List.getElem?_toArray, List.getElem?_cons_succ, List.getElem?_cons_zero]; try rfl)
    go_simp
    (skip)
    refine hK.out _ _ ?_ (fun hHeld => ?_)
    · exact (World.cell?_setCell_other _ _ _ _ (by simp)).trans C0
    clear hK K
    (try simp only [Act.put, List.setIfInBounds_toArray, List.set_cons_zero, List.set_cons_succ])
    refine wpAnyH_take (i := 19) (oi := ?oi20) (v := ?v20) ?hi20 (by kernel_rfl) (by kernel_rfl) (by kernel_rfl) ?hQ20 ?hy20 (by assumption) ?hrest20
    case hi20 => (simp only [List.getElem?_toArray, List.getElem?_cons_succ, List.getElem?_cons_zero]; try rfl)
    case hQ20 => exact fun _ _ _ h => h
    case hy20 =>
      refine Or.inl ⟨by rfl, ?_⟩
      (intro wq hSw; (try dsimp only at hSw); go_simp; try with_reducible rfl)
    (try simp only [Act.put, List.setIfInBounds_toArray, List.set_cons_zero, List.set_cons_succ])
    refine wpAnyH_take (i := 20) (oi := ?oi21) (v := ?v21) ?hi21 (by kernel_rfl) (by kernel_rfl) (by kernel_rfl) ?hQ21 ?hy21 (by assumption) ?hrest21
    case hi21 => (simp only [List.getElem?_toArray, List.getElem?_cons_succ, List.getElem?_cons_zero]; try rfl)
    case hQ21 => exact fun _ _ _ h => h
    case hy21 =>
      refine Or.inl ⟨by rfl, ?_⟩
      (intro wq hSw; (try dsimp only at hSw); go_simp; try with_reducible rfl)
    (try simp only [Act.put, List.setIfInBounds_toArray, List.set_cons_zero, List.set_cons_succ])
    refine wpAnyH_ready (rs := [21]) (by kernel_rfl) (by simp) ?_
    refine AllReadyH.cons (o := ?oi22) ?hi22 (fun K hK => ?hstep22) AllReadyH.nil
    case hi22 => (simp only [List.getElem?_toArray, List.getElem?_cons_succ, List.getElem?_cons_zero]; try rfl)
    go_simp
    (skip)
    refine hK.out _ _ ?_ (fun hHeld => ?_)
    · exact (World.cell?_setCell_other _ _ _ _ (by simp)).trans ((World.cell?_setCell_other _ _ _ _ (by simp)).trans C0)
    clear hK K
    (try simp only [Act.put, List.setIfInBounds_toArray, List.set_cons_zero, List.set_cons_succ])
    refine wpAnyH_done (by kernel_rfl) ?_ _
    refine NoPanic.normal ?_
    (have G := (Gro.of_below (b := b) (c := b) bcur).trans ((Gro.set b b 1 _ (.int .i64 p')).trans (Gro.set b b 2 _ (.int .i64 e'))); have R := (h.below bcur).set1 p' |>.set2 e'; (go_wp2_with fail); go_ret; exact ⟨rfl, R, G⟩)
  · have hz1 : (er == 0) = false := by simp [hz]
    rw [nx, if_neg hz]
    go_enter Tryd.func51, Tryd.ntmps51
    go_wp2_with fail
    go_ret
    exact ⟨rfl, h, Gro.refl _ _ _⟩

end Go.Proofs.YtnkocbdbfkhgmaaDoor
