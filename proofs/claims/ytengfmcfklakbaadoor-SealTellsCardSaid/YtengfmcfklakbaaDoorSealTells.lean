import Derived.Test.YtengfmcfklakbaaDoorSealF
import Derived.Deep.RegionHeld3
namespace Go.Proofs.YtengfmcfklakbaaDoor
open Go.RowKit Go.Cov
set_option maxRecDepth 100000 in
set_option maxHeartbeats 1600000 in
theorem tells_law {A : Option Addr} {c : Nat} {l : List UInt8} {w : World} (h : Rd w A (l.map byt)) (hc : l.length ≤ c) (hl : l.length ≤ 140737488351232) (ht : Tab w) :
    Calls Tryd.prog 3 #[.slice A l.length c] w fun e w' => e = .returned (.bool true) ∧ Below w.heap.size w w' := by
  go_enter Tryd.func3, Tryd.ntmps3
  go_wp2_with fail
  refine (head_any ht).mono ?_
  rintro e w1 ⟨rfl, hb1⟩
  have h1 := h.below hb1
  have hown : (w1.alloc (.cells #[] 5)).ownsRow w1.heap.size 5 1 (.slice (some ⟨w1.heap.size, 0, none⟩) 0 0) 0 [] := World.ownsRow_made w1 #[] 0 (Nat.le_refl _) (by simp [maxLen]) rfl
  go_wp2_with (at_builtin; refine wpList_app rfl (.tmp 12) (.tmp 13) 22 rfl w1.heap.size 5 Tryd.underlying22 info5 rfl (by decide) (.slice (some ⟨w1.heap.size, 0, none⟩) 0 0) 0 _ rfl hown A l.length c (l.map byt) rfl (by simp) (h1.alloc _) (byt_one l) (by omega) (by omega) (by simp) ?_; intro v2 w2 hin2 hg2 hat2; simp only [Nat.zero_add, List.nil_append] at hin2; have hb2' : Below w1.heap.size w1 w2 := ((below_alloc w1 _).grown hg2 (by simp) (by intro k hk; simp [Value.ownBlock] at hk; omega)))
  have hb2 := hb1.trans (hb2'.mono hb1.size)
  obtain ⟨A2, c2, hv2, hc2, _⟩ := own_shape hin2
  subst hv2
  have r2 := own_rd hin2
  refine (seal_any r2 hl (ht.below hb2)).mono ?_
  rintro e w3 ⟨v3, rfl, hown3, hb3'⟩
  have hb3 := hb2.trans (hb3'.mono hb2.size)
  obtain ⟨A3, c3, rfl, hc3, _⟩ := own_shape hown3
  have hin3 := own_below hin2 hb3'
  go_wp2_with fail
  refine (open_any (own_rd hin3) hc2 (by omega) (ht.below hb3)).mono ?_
  rintro e w4 ⟨v4, rfl, hown4, hb4'⟩
  have hb4 := hb3.trans (hb4'.mono hb3.size)
  obtain ⟨A4, c4, rfl, hc4, _⟩ := own_shape hown4
  have hin4 := own_below hin3 hb4'
  have hs4 := own_below hown3 hb4'
  go_wp2_with fail
  refine (ropen_any (h.below hb4) hc hl).mono ?_
  rintro e w5 ⟨v5, rfl, hown5, hb5'⟩
  have hb5 := hb4.trans (hb5'.mono hb4.size)
  obtain ⟨A5, c5, rfl, hc5, _⟩ := own_shape hown5
  have hin5 := own_below hin4 hb5'
  have hs5 := own_below hs4 hb5'
  have ho5 := own_below hown4 hb5'
  go_wp2_with fail
  go_loopw [10] (fun i W => ∃ (k : Nat) (xs : List UInt8), k ≤ l.length ∧ i = .int .i64 k ∧ xs.length = l.length ∧ W.ownsRow w1.heap.size 5 1 (.slice A2 l.length c2) l.length (xs.map byt) ∧ w5.grownBy W (Value.slice A2 l.length c2).ownBlock) (fun i _ => l.length - (intOf i).toNat)
  case atStart => exact ⟨0, l, Nat.zero_le _, rfl, rfl, hin5, World.grownBy.refl _ _⟩
  case round =>
    obtain ⟨k, xs, hk, rfl, hxl, hown', hg⟩ := hrel
    by_cases hlt : k < l.length
    · obtain ⟨g, rfl⟩ : ∃ g, A2 = some ⟨g, 0, none⟩ := by
        rcases hown'.2 with ⟨hv, hn⟩ | ⟨g, cap, cur, hv, _⟩
        · omega
        · injection hv with hv; exact ⟨g, hv⟩
      have hck : wr.cell? ⟨g, k, none⟩ = some (.int .u8 (xs[k]'(by omega)).toNat) := by
        rw [hown'.cellAt k (by omega), List.getElem?_map, List.getElem?_eq_getElem (by omega)]; rfl
      have hfk := hown'.frozenAt k
      generalize hb : xs[k]'(by omega) = b at hck
      go_wp2_with fail
      obtain ⟨b1, b2⟩ := hown'.stored k (byt (b + 1))
      have e1 : byt (b + 1) = .int .u8 (((b.toNat : Int) + 1) % 256) := by
        unfold byt
        rw [UInt8.toNat_add]
        simp
      rw [e1] at b1 b2
      go_roundw
      case rel => exact ⟨k + 1, xs.set k (b + 1), by omega, by go_num, by simpa using hxl, by rw [List.map_set, e1]; exact b1, grown_after hg b2 (fun j hj => .inr rfl)⟩
      case measure => simp [intOf]; omega
    · have hA2 : ∀ g, (Value.slice A2 l.length c2).ownBlock = some g → g < w2.heap.size := fun g hg => (own_lt hin2 hg).2
      have hs6 := hs5.kept hg (by
        cases hv : (Value.slice A3 (4 + l.length) c3).ownBlock with
        | none => exact .inl rfl
        | some g => right; intro hh; have := hA2 g hh.symm; have := (own_lt hs5 hv).1; omega)
      have ho6 := ho5.kept hg (by
        cases hv : (Value.slice A4 (openL l).length c4).ownBlock with
        | none => exact .inl rfl
        | some g => right; intro hh; have := hA2 g hh.symm; have := (own_lt ho5 hv).1; have := hb3'.size; omega)
      have hp6 := hown5.kept hg (by
        cases hv : (Value.slice A5 (openL l).length c5).ownBlock with
        | none => exact .inl rfl
        | some g => right; intro hh; have := hA2 g hh.symm; have := (own_lt hown5 hv).1; have := hb3'.size; have := hb4'.size; omega)
      have hb6 : Below w.heap.size w wr := hb5.grown hg hb5.size (by intro k hk; have := (own_lt hin2 hk).1; have := hb1.size; omega)
      have hl3 : 4 + l.length = (sumBytes l ++ l).length := (sealed_length l).symm
      have cs := fun W (hW : Below wr.heap.size wr W) => conv_bs (P := Tryd.prog) Tryd.underlying22 Tryd.underlying5 Tryd.underlying9 ((own_rd hs6).below hW) c3
      rw [← hl3] at cs
      have co := fun W (hW : Below wr.heap.size wr W) => conv_bs (P := Tryd.prog) Tryd.underlying22 Tryd.underlying5 Tryd.underlying9 ((own_rd ho6).below hW) c4
      have cp := fun W (hW : Below wr.heap.size wr W) => conv_bs (P := Tryd.prog) Tryd.underlying22 Tryd.underlying5 Tryd.underlying9 ((own_rd hp6).below hW) c5
      have Hl3 := hid hl3
      clear hl3
      have hB0 : Below wr.heap.size wr wr.drew := (Below.refl _ _).drew
      have hr6 := h.below hb6
      have ht6 := ht.below hb6
      go_wp2_with fail
      refine wp_region_noPanic ?_
      refine wp_region_held_drew (S := (fun W => Below wr.heap.size wr W)) (by kernel_rfl) ?_ (fun hHeld => ?_)
      · (first | assumption | exact hB0)
      refine wpAnyH_take (i := 0) (oi := ?oi1) (v := ?v1) ?hi1 (by kernel_rfl) (by kernel_rfl) (by kernel_rfl) ?hQ1 ?hy1 (by assumption) ?hrest1
      case hi1 => (simp only [List.getElem?_toArray, List.getElem?_cons_zero]; try rfl)
      case hQ1 => exact fun _ _ _ h => h
      case hy1 =>
        refine Or.inl ⟨by rfl, ?_⟩
        (intro wq hSw; (try dsimp only at hSw); go_simp; try with_reducible rfl)
      (try simp only [Act.put, List.setIfInBounds_toArray, List.set_cons_zero, List.set_cons_succ])
      refine wpAnyH_take (i := 1) (oi := ?oi2) (v := ?v2) ?hi2 (by kernel_rfl) (by kernel_rfl) (by kernel_rfl) ?hQ2 ?hy2 (by assumption) ?hrest2
      case hi2 => (simp only [List.getElem?_toArray, List.getElem?_cons_succ, List.getElem?_cons_zero]; try rfl)
      case hQ2 => exact fun _ _ _ h => h
      case hy2 =>
        refine Or.inl ⟨by rfl, ?_⟩
        (intro wq hSw; (try dsimp only at hSw); go_simp; try with_reducible rfl)
      (try simp only [Act.put, List.setIfInBounds_toArray, List.set_cons_zero, List.set_cons_succ])
      refine wpAnyH_take (i := 2) (oi := ?oi3) (v := ?v3) ?hi3 (by kernel_rfl) (by kernel_rfl) (by kernel_rfl) ?hQ3 ?hy3 (by assumption) ?hrest3
      case hi3 => (simp only [List.getElem?_toArray, List.getElem?_cons_succ, List.getElem?_cons_zero]; try rfl)
      case hQ3 => exact fun _ _ _ h => h
      case hy3 =>
        refine Or.inl ⟨by rfl, ?_⟩
        (intro wq hSw; (try dsimp only at hSw); go_simp; try with_reducible rfl)
      (try simp only [Act.put, List.setIfInBounds_toArray, List.set_cons_zero, List.set_cons_succ])
      refine wpAnyH_take (i := 4) (oi := ?oi4) (v := ?v4) ?hi4 (by kernel_rfl) (by kernel_rfl) (by kernel_rfl) ?hQ4 ?hy4 (by assumption) ?hrest4
      case hi4 => (simp only [List.getElem?_toArray, List.getElem?_cons_succ, List.getElem?_cons_zero]; try rfl)
      case hQ4 => exact fun _ _ _ h => h
      case hy4 =>
        refine Or.inl ⟨by rfl, ?_⟩
        (intro wq hSw; (try dsimp only at hSw); go_simp; try with_reducible rfl)
      (try simp only [Act.put, List.setIfInBounds_toArray, List.set_cons_zero, List.set_cons_succ])
      refine wpAnyH_ready (rs := [3]) (by kernel_rfl) (by simp) ?_
      refine AllReadyH.cons (o := ?oi5) ?hi5 (fun K hK => ?hstep5) AllReadyH.nil
      case hi5 => (simp only [List.getElem?_toArray, List.getElem?_cons_succ, List.getElem?_cons_zero]; try rfl)
      go_simp
      (first | (go_at_call 13; refine (sum_any (hr6.below (by assumption)) (by omega) (ht6.below (by assumption))).mono ?_; rintro e w7 ⟨rfl, rfl⟩) | (go_at_call 14; refine (rsum_any (hr6.below (by assumption)) (by omega)).mono ?_; rintro e w7 ⟨rfl, rfl⟩) | (go_at_call 15; refine (rseal_any (hr6.below (by assumption)) hl).mono ?_; rintro e w7 ⟨v7, rfl, hown7, hb7⟩; obtain ⟨A7, c7, hv7, _⟩ := own_shape hown7; subst hv7; have hB7 : Below wr.heap.size wr w7 := Below.trans (by assumption) hb7; have cq := conv_bs (P := Tryd.prog) Tryd.underlying22 Tryd.underlying5 Tryd.underlying9 (own_rd hown7) c7; rw [← Hl3.out] at cq))
      refine hK.out _ _ ?_ (fun hHeld => ?_)
      · (first | assumption | exact hB0)
      clear hK K
      (try simp only [Act.put, List.setIfInBounds_toArray, List.set_cons_zero, List.set_cons_succ])
      refine wpAnyH_ready (rs := [5]) (by kernel_rfl) (by simp) ?_
      refine AllReadyH.cons (o := ?oi6) ?hi6 (fun K hK => ?hstep6) AllReadyH.nil
      case hi6 => (simp only [List.getElem?_toArray, List.getElem?_cons_succ, List.getElem?_cons_zero]; try rfl)
      go_simp
      (first | (go_at_call 13; refine (sum_any (hr6.below (by assumption)) (by omega) (ht6.below (by assumption))).mono ?_; rintro e w7 ⟨rfl, rfl⟩) | (go_at_call 14; refine (rsum_any (hr6.below (by assumption)) (by omega)).mono ?_; rintro e w7 ⟨rfl, rfl⟩) | (go_at_call 15; refine (rseal_any (hr6.below (by assumption)) hl).mono ?_; rintro e w7 ⟨v7, rfl, hown7, hb7⟩; obtain ⟨A7, c7, hv7, _⟩ := own_shape hown7; subst hv7; have hB7 : Below wr.heap.size wr w7 := Below.trans (by assumption) hb7; have cq := conv_bs (P := Tryd.prog) Tryd.underlying22 Tryd.underlying5 Tryd.underlying9 (own_rd hown7) c7; rw [← Hl3.out] at cq))
      refine hK.out _ _ ?_ (fun hHeld => ?_)
      · (first | assumption | exact hB0)
      clear hK K
      (try simp only [Act.put, List.setIfInBounds_toArray, List.set_cons_zero, List.set_cons_succ])
      refine wpAnyH_take (i := 6) (oi := ?oi7) (v := ?v7) ?hi7 (by kernel_rfl) (by kernel_rfl) (by kernel_rfl) ?hQ7 ?hy7 (by assumption) ?hrest7
      case hi7 => (simp only [List.getElem?_toArray, List.getElem?_cons_succ, List.getElem?_cons_zero]; try rfl)
      case hQ7 => exact fun _ _ _ h => h
      case hy7 =>
        refine Or.inl ⟨by rfl, ?_⟩
        (intro wq hSw; (try dsimp only at hSw); go_simp; try with_reducible rfl)
      (try simp only [Act.put, List.setIfInBounds_toArray, List.set_cons_zero, List.set_cons_succ])
      refine wpAnyH_take (i := 7) (oi := ?oi8) (v := ?v8) ?hi8 (by kernel_rfl) (by kernel_rfl) (by kernel_rfl) ?hQ8 ?hy8 (by assumption) ?hrest8
      case hi8 => (simp only [List.getElem?_toArray, List.getElem?_cons_succ, List.getElem?_cons_zero]; try rfl)
      case hQ8 => exact fun _ _ _ h => h
      case hy8 =>
        refine Or.inl ⟨by rfl, ?_⟩
        (intro wq hSw; (try dsimp only at hSw); go_simp; try with_reducible rfl)
      (try simp only [Act.put, List.setIfInBounds_toArray, List.set_cons_zero, List.set_cons_succ])
      refine wpAnyH_take (i := 8) (oi := ?oi9) (v := ?v9) ?hi9 (by kernel_rfl) (by kernel_rfl) (by kernel_rfl) ?hQ9 ?hy9 (by assumption) ?hrest9
      case hi9 => (simp only [List.getElem?_toArray, List.getElem?_cons_succ, List.getElem?_cons_zero]; try rfl)
      case hQ9 => exact fun _ _ _ h => h
      case hy9 =>
        refine Or.inl ⟨by rfl, ?_⟩
        (intro wq hSw; (try dsimp only at hSw); go_simp; try with_reducible rfl)
      (try simp only [Act.put, List.setIfInBounds_toArray, List.set_cons_zero, List.set_cons_succ])
      refine wpAnyH_take (i := 9) (oi := ?oi10) (v := ?v10) ?hi10 (by kernel_rfl) (by kernel_rfl) (by kernel_rfl) ?hQ10 ?hy10 (by assumption) ?hrest10
      case hi10 => (simp only [List.getElem?_toArray, List.getElem?_cons_succ, List.getElem?_cons_zero]; try rfl)
      case hQ10 => exact fun _ _ _ h => h
      case hy10 =>
        refine Or.inl ⟨by rfl, ?_⟩
        (intro wq hSw; (try dsimp only at hSw); go_simp; try with_reducible rfl)
      (try simp only [Act.put, List.setIfInBounds_toArray, List.set_cons_zero, List.set_cons_succ])
      refine wpAnyH_take (i := 10) (oi := ?oi11) (v := ?v11) ?hi11 (by kernel_rfl) (by kernel_rfl) (by kernel_rfl) ?hQ11 ?hy11 (by assumption) ?hrest11
      case hi11 => (simp only [List.getElem?_toArray, List.getElem?_cons_succ, List.getElem?_cons_zero]; try rfl)
      case hQ11 => exact fun _ _ _ h => h
      case hy11 =>
        refine Or.inl ⟨by rfl, ?_⟩
        (intro wq hSw; (try dsimp only at hSw); go_simp; try with_reducible rfl)
      (try simp only [Act.put, List.setIfInBounds_toArray, List.set_cons_zero, List.set_cons_succ])
      refine wpAnyH_take (i := 11) (oi := ?oi12) (v := ?v12) ?hi12 (by kernel_rfl) (by kernel_rfl) (by kernel_rfl) ?hQ12 ?hy12 (by assumption) ?hrest12
      case hi12 => (simp only [List.getElem?_toArray, List.getElem?_cons_succ, List.getElem?_cons_zero]; try rfl)
      case hQ12 => exact fun _ _ _ h => h
      case hy12 =>
        refine Or.inl ⟨by rfl, ?_⟩
        (intro wq hSw; (try dsimp only at hSw); go_simp; try with_reducible rfl)
      (try simp only [Act.put, List.setIfInBounds_toArray, List.set_cons_zero, List.set_cons_succ])
      refine wpAnyH_ready (rs := [12]) (by kernel_rfl) (by simp) ?_
      refine AllReadyH.cons (o := ?oi13) ?hi13 (fun K hK => ?hstep13) AllReadyH.nil
      case hi13 => (simp only [List.getElem?_toArray, List.getElem?_cons_succ, List.getElem?_cons_zero]; try rfl)
      go_simp
      (first | (go_at_call 13; refine (sum_any (hr6.below (by assumption)) (by omega) (ht6.below (by assumption))).mono ?_; rintro e w7 ⟨rfl, rfl⟩) | (go_at_call 14; refine (rsum_any (hr6.below (by assumption)) (by omega)).mono ?_; rintro e w7 ⟨rfl, rfl⟩) | (go_at_call 15; refine (rseal_any (hr6.below (by assumption)) hl).mono ?_; rintro e w7 ⟨v7, rfl, hown7, hb7⟩; obtain ⟨A7, c7, hv7, _⟩ := own_shape hown7; subst hv7; have hB7 : Below wr.heap.size wr w7 := Below.trans (by assumption) hb7; have cq := conv_bs (P := Tryd.prog) Tryd.underlying22 Tryd.underlying5 Tryd.underlying9 (own_rd hown7) c7; rw [← Hl3.out] at cq))
      refine hK.out _ _ ?_ (fun hHeld => ?_)
      · (first | assumption | exact hB0)
      clear hK K
      (try simp only [Act.put, List.setIfInBounds_toArray, List.set_cons_zero, List.set_cons_succ])
      refine wpAnyH_ready (rs := [13]) (by kernel_rfl) (by simp) ?_
      refine AllReadyH.cons (o := ?oi14) ?hi14 (fun K hK => ?hstep14) AllReadyH.nil
      case hi14 => (simp only [List.getElem?_toArray, List.getElem?_cons_succ, List.getElem?_cons_zero]; try rfl)
      go_simp
      refine hK.out _ _ ?_ (fun hHeld => ?_)
      · (first | assumption | exact hB0)
      clear hK K
      (try simp only [Act.put, List.setIfInBounds_toArray, List.set_cons_zero, List.set_cons_succ])
      refine wpAnyH_take (i := 14) (oi := ?oi15) (v := ?v15) ?hi15 (by kernel_rfl) (by kernel_rfl) (by kernel_rfl) ?hQ15 ?hy15 (by assumption) ?hrest15
      case hi15 => (simp only [List.getElem?_toArray, List.getElem?_cons_succ, List.getElem?_cons_zero]; try rfl)
      case hQ15 => exact fun _ _ _ h => h
      case hy15 =>
        refine Or.inl ⟨by rfl, ?_⟩
        (intro wq hSw; (try dsimp only at hSw); go_simp; try with_reducible rfl)
      (try simp only [Act.put, List.setIfInBounds_toArray, List.set_cons_zero, List.set_cons_succ])
      refine wpAnyH_take (i := 15) (oi := ?oi16) (v := ?v16) ?hi16 (by kernel_rfl) (by kernel_rfl) (by kernel_rfl) ?hQ16 ?hy16 (by assumption) ?hrest16
      case hi16 => (simp only [List.getElem?_toArray, List.getElem?_cons_succ, List.getElem?_cons_zero]; try rfl)
      case hQ16 => exact fun _ _ _ h => h
      case hy16 =>
        refine Or.inl ⟨by rfl, ?_⟩
        (intro wq hSw; (try dsimp only at hSw); go_simp; try with_reducible rfl)
      (try simp only [Act.put, List.setIfInBounds_toArray, List.set_cons_zero, List.set_cons_succ])
      refine wpAnyH_take (i := 16) (oi := ?oi17) (v := ?v17) ?hi17 (by kernel_rfl) (by kernel_rfl) (by kernel_rfl) ?hQ17 ?hy17 (by assumption) ?hrest17
      case hi17 => (simp only [List.getElem?_toArray, List.getElem?_cons_succ, List.getElem?_cons_zero]; try rfl)
      case hQ17 => exact fun _ _ _ h => h
      case hy17 =>
        refine Or.inl ⟨by rfl, ?_⟩
        (intro wq hSw; (try dsimp only at hSw); go_simp; try with_reducible rfl)
      (try simp only [Act.put, List.setIfInBounds_toArray, List.set_cons_zero, List.set_cons_succ])
      refine wpAnyH_take (i := 17) (oi := ?oi18) (v := ?v18) ?hi18 (by kernel_rfl) (by kernel_rfl) (by kernel_rfl) ?hQ18 ?hy18 (by assumption) ?hrest18
      case hi18 => (simp only [List.getElem?_toArray, List.getElem?_cons_succ, List.getElem?_cons_zero]; try rfl)
      case hQ18 => exact fun _ _ _ h => h
      case hy18 =>
        refine Or.inl ⟨by rfl, ?_⟩
        (intro wq hSw; (try dsimp only at hSw); go_simp; try with_reducible rfl)
      (try simp only [Act.put, List.setIfInBounds_toArray, List.set_cons_zero, List.set_cons_succ])
      refine wpAnyH_take (i := 18) (oi := ?oi19) (v := ?v19) ?hi19 (by kernel_rfl) (by kernel_rfl) (by kernel_rfl) ?hQ19 ?hy19 (by assumption) ?hrest19
      case hi19 => (simp only [List.getElem?_toArray, List.getElem?_cons_succ, List.getElem?_cons_zero]; try rfl)
      case hQ19 => exact fun _ _ _ h => h
      case hy19 =>
        refine Or.inl ⟨by rfl, ?_⟩
        (intro wq hSw; (try dsimp only at hSw); go_simp; try with_reducible rfl)
      (try simp only [Act.put, List.setIfInBounds_toArray, List.set_cons_zero, List.set_cons_succ])
      refine wpAnyH_take (i := 19) (oi := ?oi20) (v := ?v20) ?hi20 (by kernel_rfl) (by kernel_rfl) (by kernel_rfl) ?hQ20 ?hy20 (by assumption) ?hrest20
      case hi20 => (simp only [List.getElem?_toArray, List.getElem?_cons_succ, List.getElem?_cons_zero]; try rfl)
      case hQ20 => exact fun _ _ _ h => h
      case hy20 =>
        refine Or.inl ⟨by rfl, ?_⟩
        (intro wq hSw; (try dsimp only at hSw); go_simp; try with_reducible rfl)
      (try simp only [Act.put, List.setIfInBounds_toArray, List.set_cons_zero, List.set_cons_succ])
      refine wpAnyH_take (i := 20) (oi := ?oi21) (v := ?v21) ?hi21 (by kernel_rfl) (by kernel_rfl) (by kernel_rfl) ?hQ21 ?hy21 (by assumption) ?hrest21
      case hi21 => (simp only [List.getElem?_toArray, List.getElem?_cons_succ, List.getElem?_cons_zero]; try rfl)
      case hQ21 => exact fun _ _ _ h => h
      case hy21 =>
        refine Or.inl ⟨by rfl, ?_⟩
        (intro wq hSw; (try dsimp only at hSw); go_simp; try with_reducible rfl)
      (try simp only [Act.put, List.setIfInBounds_toArray, List.set_cons_zero, List.set_cons_succ])
      refine wpAnyH_take (i := 21) (oi := ?oi22) (v := ?v22) ?hi22 (by kernel_rfl) (by kernel_rfl) (by kernel_rfl) ?hQ22 ?hy22 (by assumption) ?hrest22
      case hi22 => (simp only [List.getElem?_toArray, List.getElem?_cons_succ, List.getElem?_cons_zero]; try rfl)
      case hQ22 => exact fun _ _ _ h => h
      case hy22 =>
        refine Or.inl ⟨by rfl, ?_⟩
        (intro wq hSw; (try dsimp only at hSw); go_simp; try with_reducible rfl)
      (try simp only [Act.put, List.setIfInBounds_toArray, List.set_cons_zero, List.set_cons_succ])
      refine wpAnyH_take (i := 22) (oi := ?oi23) (v := ?v23) ?hi23 (by kernel_rfl) (by kernel_rfl) (by kernel_rfl) ?hQ23 ?hy23 (by assumption) ?hrest23
      case hi23 => (simp only [List.getElem?_toArray, List.getElem?_cons_succ, List.getElem?_cons_zero]; try rfl)
      case hQ23 => exact fun _ _ _ h => h
      case hy23 =>
        refine Or.inl ⟨by rfl, ?_⟩
        (intro wq hSw; (try dsimp only at hSw); go_simp; try with_reducible rfl)
      (try simp only [Act.put, List.setIfInBounds_toArray, List.set_cons_zero, List.set_cons_succ])
      refine wpAnyH_take (i := 23) (oi := ?oi24) (v := ?v24) ?hi24 (by kernel_rfl) (by kernel_rfl) (by kernel_rfl) ?hQ24 ?hy24 (by assumption) ?hrest24
      case hi24 => (simp only [List.getElem?_toArray, List.getElem?_cons_succ, List.getElem?_cons_zero]; try rfl)
      case hQ24 => exact fun _ _ _ h => h
      case hy24 =>
        refine Or.inl ⟨by rfl, ?_⟩
        (intro wq hSw; (try dsimp only at hSw); go_simp; try with_reducible rfl)
      (try simp only [Act.put, List.setIfInBounds_toArray, List.set_cons_zero, List.set_cons_succ])
      refine wpAnyH_take (i := 24) (oi := ?oi25) (v := ?v25) ?hi25 (by kernel_rfl) (by kernel_rfl) (by kernel_rfl) ?hQ25 ?hy25 (by assumption) ?hrest25
      case hi25 => (simp only [List.getElem?_toArray, List.getElem?_cons_succ, List.getElem?_cons_zero]; try rfl)
      case hQ25 => exact fun _ _ _ h => h
      case hy25 =>
        refine Or.inl ⟨by rfl, ?_⟩
        (intro wq hSw; (try dsimp only at hSw); go_simp; try with_reducible rfl)
      (try simp only [Act.put, List.setIfInBounds_toArray, List.set_cons_zero, List.set_cons_succ])
      refine wpAnyH_take (i := 25) (oi := ?oi26) (v := ?v26) ?hi26 (by kernel_rfl) (by kernel_rfl) (by kernel_rfl) ?hQ26 ?hy26 (by assumption) ?hrest26
      case hi26 => (simp only [List.getElem?_toArray, List.getElem?_cons_succ, List.getElem?_cons_zero]; try rfl)
      case hQ26 => exact fun _ _ _ h => h
      case hy26 =>
        refine Or.inl ⟨by rfl, ?_⟩
        (intro wq hSw; (try dsimp only at hSw); go_simp; try with_reducible rfl)
      (try simp only [Act.put, List.setIfInBounds_toArray, List.set_cons_zero, List.set_cons_succ])
      refine wpAnyH_take (i := 26) (oi := ?oi27) (v := ?v27) ?hi27 (by kernel_rfl) (by kernel_rfl) (by kernel_rfl) ?hQ27 ?hy27 (by assumption) ?hrest27
      case hi27 => (simp only [List.getElem?_toArray, List.getElem?_cons_succ, List.getElem?_cons_zero]; try rfl)
      case hQ27 => exact fun _ _ _ h => h
      case hy27 =>
        refine Or.inl ⟨by rfl, ?_⟩
        (intro wq hSw; (try dsimp only at hSw); go_simp; try with_reducible rfl)
      (try simp only [Act.put, List.setIfInBounds_toArray, List.set_cons_zero, List.set_cons_succ])
      refine wpAnyH_take (i := 27) (oi := ?oi28) (v := ?v28) ?hi28 (by kernel_rfl) (by kernel_rfl) (by kernel_rfl) ?hQ28 ?hy28 (by assumption) ?hrest28
      case hi28 => (simp only [List.getElem?_toArray, List.getElem?_cons_succ, List.getElem?_cons_zero]; try rfl)
      case hQ28 => exact fun _ _ _ h => h
      case hy28 =>
        refine Or.inl ⟨by rfl, ?_⟩
        (intro wq hSw; (try dsimp only at hSw); go_simp; try with_reducible rfl)
      (try simp only [Act.put, List.setIfInBounds_toArray, List.set_cons_zero, List.set_cons_succ])
      refine wpAnyH_take (i := 28) (oi := ?oi29) (v := ?v29) ?hi29 (by kernel_rfl) (by kernel_rfl) (by kernel_rfl) ?hQ29 ?hy29 (by assumption) ?hrest29
      case hi29 => (simp only [List.getElem?_toArray, List.getElem?_cons_succ, List.getElem?_cons_zero]; try rfl)
      case hQ29 => exact fun _ _ _ h => h
      case hy29 =>
        refine Or.inl ⟨by rfl, ?_⟩
        (intro wq hSw; (try dsimp only at hSw); go_simp; try with_reducible rfl)
      (try simp only [Act.put, List.setIfInBounds_toArray, List.set_cons_zero, List.set_cons_succ])
      refine wpAnyH_done (by kernel_rfl) ?_ _
      refine NoPanic.normal ?_
      all_goals go_wp2_with fail
      all_goals go_ret
      all_goals exact ⟨rfl, hb6.trans (hB7.mono hb6.size)⟩
end Go.Proofs.YtengfmcfklakbaaDoor
