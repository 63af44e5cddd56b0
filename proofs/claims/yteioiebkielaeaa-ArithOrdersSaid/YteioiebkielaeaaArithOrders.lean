import Derived.Test.YteioiebkielaeaaArithK
namespace Go.Proofs.Yteioiebkielaeaa
open Go.RowKit Go.Cov Go.Lib
def sg : Nat → ByteArray
  | 0 => ⟨#[60]⟩ | 1 => ⟨#[61, 61]⟩ | 2 => ⟨#[62]⟩ | 3 => ⟨#[60, 61]⟩ | 4 => ⟨#[33, 61]⟩ | _ => ⟨#[62, 61]⟩
def upN (f : Nat → Bool) : Nat → Int
  | 0 => 0
  | k + 1 => if f k then upN f k + 1 else upN f k
theorem upN_in (f : Nat → Bool) : ∀ k, 0 ≤ upN f k ∧ upN f k ≤ k
  | 0 => ⟨Int.le_refl _, Int.le_refl _⟩
  | k + 1 => by
    have := upN_in f k
    rw [upN]
    split <;> omega
theorem upN_yes {f : Nat → Bool} {k : Nat} (h : f k = true) : upN f (k + 1) = upN f k + 1 := by rw [upN, if_pos h]
theorem upN_no {f : Nat → Bool} {k : Nat} (h : f k = false) : upN f (k + 1) = upN f k := by rw [upN, if_neg (by simp [h])]
set_option maxRecDepth 100000 in
set_option maxHeartbeats 6400000 in
theorem orders_main (f : Nat → Bool) (vv : Nat → Int) (a b : Int) (w : World) (hv : Hid (∀ k, (vv k == 1) = f k))
    (K : Hid (∀ k, k < 6 → ∀ w, Calls Try.prog 10 #[.string (sg k), .agg #[.int .i64 1, .int .i64 a, .slice none 0 0], .agg #[.int .i64 1, .int .i64 b, .slice none 0 0]] w fun e w' => e = .returned (.tuple #[.agg #[.int .i64 2, .int .i64 (vv k), .slice none 0 0], .int .i64 0]) ∧ Below w.heap.size w w'))
    (h3 : Hid (upN f 3 = 1)) (p0 : Hid ((f 3 == !f 2) = true)) (p1 : Hid ((f 4 == !f 1) = true)) (p2 : Hid ((f 5 == !f 0) = true)) :
    Calls Try.prog 5 #[.int .i64 a, .int .i64 b] w fun e w' => e = .returned (.bool true) ∧ Below w.heap.size w w' := by
  go_enter Try.func5, Try.ntmps5
  go_wp2_with fail
  refine (head_any _).mono ?_
  rintro e w1 ⟨rfl, hb1⟩
  go_wp2_with fail
  obtain ⟨o1, ho1⟩ : ∃ o1, (#[.string ⟨#[60]⟩, .string ⟨#[61, 61]⟩, .string ⟨#[62]⟩, .string ⟨#[60, 61]⟩, .string ⟨#[33, 61]⟩, .string ⟨#[62, 61]⟩] : Array Value) = o1 := ⟨_, rfl⟩
  obtain ⟨o2, ho2⟩ : ∃ o2, (#[.bool false, .bool false, .bool false, .bool false, .bool false, .bool false] : Array Value) = o2 := ⟨_, rfl⟩
  have c1 : ∀ j, j < 6 → o1[j]? = some (.string (sg j)) := by
    intro j hj
    subst ho1
    rcases j with _ | _ | _ | _ | _ | _ | j <;> first | rfl | omega
  have c2 : ∀ j, j < 6 → o2[j]? = some (.bool false) := by
    intro j hj
    subst ho2
    rcases j with _ | _ | _ | _ | _ | _ | j <;> first | rfl | omega
  rw [ho1, ho2]
  clear ho1 ho2
  have s1 : (w1.alloc (.cells o1 9)).heap.size = w1.heap.size + 1 := by simp
  have g1 : ∀ j, j < 6 → ((w1.alloc (.cells o1 9)).alloc (.cells o2 34)).cell? ⟨w1.heap.size, j, none⟩ = some (.string (sg j)) := fun j hj => cell_on (below_alloc _ _) (box_cell w1 o1 9 j _ (c1 j hj))
  have g2 : ∀ j, j < 6 → ((w1.alloc (.cells o1 9)).alloc (.cells o2 34)).cell? ⟨w1.heap.size + 1, j, none⟩ = some (.bool false) := fun j hj => by
    have := box_cell (w1.alloc (.cells o1 9)) o2 34 j _ (c2 j hj)
    rw [s1] at this
    exact this
  have g3 : ∀ j, ((w1.alloc (.cells o1 9)).alloc (.cells o2 34)).frozen? ⟨w1.heap.size + 1, j, none⟩ = false := fun j => by
    have := World.frozen?_alloc_new (w := w1.alloc (.cells o1 9)) o2 34 j
    rw [s1] at this
    exact this
  have g4 : w1.heap.size + 1 < ((w1.alloc (.cells o1 9)).alloc (.cells o2 34)).heap.size := by simp
  have g5 : w.heap.size ≤ w1.heap.size + 1 := by have := hb1.size; omega
  have gb := below_step (below_step hb1 (below_alloc w1 (.cells o1 9))) (below_alloc (w1.alloc (.cells o1 9)) (.cells o2 34))
  generalize hq : w1.heap.size + 1 = q at g2 g3 g4 g5 ⊢
  generalize (w1.alloc (.cells o1 9)).alloc (.cells o2 34) = w2 at g1 g2 g3 g4 gb ⊢
  have g6 : w1.heap.size ≠ q := by omega
  clear s1 c1 c2 hq hb1
  generalize w1.heap.size = p at g1 g6 ⊢
  clear w1
  go_loopw [8] (fun i W => ∃ k : Nat, k ≤ 6 ∧ i = .int .i64 k ∧ (∀ j, j < 6 → W.cell? ⟨q, j, none⟩ = some (.bool (if j < k then f j else false))) ∧ (∀ j, W.frozen? ⟨q, j, none⟩ = false) ∧ (∀ j, j < 6 → W.cell? ⟨p, j, none⟩ = some (.string (sg j))) ∧ q < W.heap.size ∧ Below w.heap.size w W) (fun i _ => 6 - (intOf i).toNat)
  case atStart => exact ⟨0, by omega, rfl, fun j hj => by rw [if_neg (by omega)]; exact g2 j hj, g3, g1, g4, gb⟩
  case round =>
    obtain ⟨k, hk, rfl, d1, d2, d3, d4, d5⟩ := hrel
    clear g1 g2 g3 g4 gb
    by_cases hlt : k < 6
    · have cs := d3 k hlt
      have Kk := hid (K.out k hlt)
      have hvk := hid (hv.out k)
      have dk := d1 k hlt
      rw [if_neg (by omega)] at dk
      have dfk := d2 k
      have D1 := hid d1
      have D2 := hid d2
      have D3 := hid d3
      clear d1 d2 d3
      obtain ⟨fk, hfk⟩ : ∃ fk, f k = fk := ⟨_, rfl⟩
      obtain ⟨s, hs⟩ : ∃ s, sg k = s := ⟨_, rfl⟩
      obtain ⟨v, hvv⟩ : ∃ v, vv k = v := ⟨_, rfl⟩
      rw [hs, hvv] at Kk
      rw [hs] at cs
      rw [hfk, hvv] at hvk
      have HF := hid hfk
      clear hs hvv hfk
      have i1 : (k : Int) < 6 := by omega
      go_upto_region 7 with fail
      go_cut [9, 10] (fun s9 s10 wx => ∃ b, s9 = .pointer (some ⟨b, 0, none⟩) ∧ s10 = .int .i64 0 ∧ wx.cell? ⟨b, 0, none⟩ = some (.int .i64 2) ∧ wx.cell? ⟨b, 1, none⟩ = some (.int .i64 v) ∧ wx.cell? ⟨b, 2, none⟩ = some (.slice none 0 0) ∧ Below wr.heap.size wr wx)
      case first =>
        have csq := fun W (hW : Below wr.heap.size wr W) => cell_on hW cs
        refine wp_region_noPanic ?_
        refine wp_region_held_drew (S := (fun W => Below wr.heap.size wr W)) (by kernel_rfl) ?_ (fun hHeld => ?_)
        · exact (Below.refl _ _).drew
        refine wpAnyH_take (i := 0) (oi := ?oi1) (v := ?v1) ?hi1 (by kernel_rfl) (by kernel_rfl) (by kernel_rfl) ?hQ1 ?hy1 (by assumption) ?hrest1
        case hi1 => (simp only [List.getElem?_toArray, List.getElem?_cons_zero]; try rfl)
        case hQ1 => exact fun _ _ _ h => h
        case hy1 =>
          refine Or.inl ⟨by rfl, ?_⟩
          (intro wq hSw; (try dsimp only at hSw); go_simp; try with_reducible rfl)
        (try simp only [Act.put, List.setIfInBounds_toArray, List.set_cons_zero, List.set_cons_succ])
        refine wpAnyH_take (i := 1) (oi := ?oi2) (v := ?v2) ?hi2 (by kernel_rfl) (by kernel_rfl) (by kernel_rfl) ?hQ2 ?hy2 (by assumption) ?hrest2
        case hi2 => (simp only [List.getElem?_toArray, List.getElem?_cons_succ, List.getElem?_cons_zero]; try rfl)
        case hQ2 => exact fun _ _ _ h => h
        case hy2 =>
          refine Or.inl ⟨by rfl, ?_⟩
          (intro wq hSw; (try dsimp only at hSw); go_simp; try with_reducible rfl)
        (try simp only [Act.put, List.setIfInBounds_toArray, List.set_cons_zero, List.set_cons_succ])
        refine wpAnyH_take (i := 2) (oi := ?oi3) (v := ?v3) ?hi3 (by kernel_rfl) (by kernel_rfl) (by kernel_rfl) ?hQ3 ?hy3 (by assumption) ?hrest3
        case hi3 => (simp only [List.getElem?_toArray, List.getElem?_cons_succ, List.getElem?_cons_zero]; try rfl)
        case hQ3 => exact fun _ _ _ h => h
        case hy3 =>
          refine Or.inl ⟨by rfl, ?_⟩
          (intro wq hSw; (try dsimp only at hSw); go_simp; try with_reducible rfl)
        (try simp only [Act.put, List.setIfInBounds_toArray, List.set_cons_zero, List.set_cons_succ])
        refine wpAnyH_take (i := 3) (oi := ?oi4) (v := ?v4) ?hi4 (by kernel_rfl) (by kernel_rfl) (by kernel_rfl) ?hQ4 ?hy4 (by assumption) ?hrest4
        case hi4 => (simp only [List.getElem?_toArray, List.getElem?_cons_succ, List.getElem?_cons_zero]; try rfl)
        case hQ4 => exact fun _ _ _ h => h
        case hy4 =>
          refine Or.inl ⟨by rfl, ?_⟩
          (intro wq hSw; (try dsimp only at hSw); go_simp; try with_reducible rfl)
        (try simp only [Act.put, List.setIfInBounds_toArray, List.set_cons_zero, List.set_cons_succ])
        refine wpAnyH_take (i := 4) (oi := ?oi5) (v := ?v5) ?hi5 (by kernel_rfl) (by kernel_rfl) (by kernel_rfl) ?hQ5 ?hy5 (by assumption) ?hrest5
        case hi5 => (simp only [List.getElem?_toArray, List.getElem?_cons_succ, List.getElem?_cons_zero]; try rfl)
        case hQ5 => exact fun _ _ _ h => h
        case hy5 =>
          refine Or.inl ⟨by rfl, ?_⟩
          (intro wq hSw; (try dsimp only at hSw); go_simp; try with_reducible rfl)
        (try simp only [Act.put, List.setIfInBounds_toArray, List.set_cons_zero, List.set_cons_succ])
        refine wpAnyH_take (i := 6) (oi := ?oi6) (v := ?v6) ?hi6 (by kernel_rfl) (by kernel_rfl) (by kernel_rfl) ?hQ6 ?hy6 (by assumption) ?hrest6
        case hi6 => (simp only [List.getElem?_toArray, List.getElem?_cons_succ, List.getElem?_cons_zero]; try rfl)
        case hQ6 => exact fun _ _ _ h => h
        case hy6 =>
          refine Or.inl ⟨by rfl, ?_⟩
          (intro wq hSw; (try dsimp only at hSw); go_simp; try with_reducible rfl)
        (try simp only [Act.put, List.setIfInBounds_toArray, List.set_cons_zero, List.set_cons_succ])
        refine wpAnyH_ready (rs := [5, 12]) (by kernel_rfl) (by simp) ?_
        refine AllReadyH.cons (o := ?oi7) ?hi7 (fun K hK => ?hstep7) ?hmore7
        case hi7 => (simp only [List.getElem?_toArray, List.getElem?_cons_succ, List.getElem?_cons_zero]; try rfl)
        case hstep7 =>
          go_simp
          (refine (num_any _ _).mono ?_; rintro e wx ⟨rfl, hbx⟩; (try have n0 := cell_on hbx n0); (try have f0 := froz_on hbx nz f0); (try have n1 := cell_on hbx n1); (try have f1 := froz_on hbx nz f1); (try have n2 := cell_on hbx n2); (try have f2 := froz_on hbx nz f2); (try have nz := Nat.lt_of_lt_of_le nz hbx.size))
          refine hK.out _ _ ?_ (fun hHeld => ?_)
          · exact below_step hHeld hbx
          clear hK K
          (try simp only [Act.put, List.setIfInBounds_toArray, List.set_cons_zero, List.set_cons_succ])
          refine wpAnyH_ready (rs := [7, 12]) (by kernel_rfl) (by simp) ?_
          refine AllReadyH.cons (o := ?oi8) ?hi8 (fun K hK => ?hstep8) ?hmore8
          case hi8 => (simp only [List.getElem?_toArray, List.getElem?_cons_succ, List.getElem?_cons_zero]; try rfl)
          case hstep8 =>
            go_simp
            (refine (num_any _ _).mono ?_; rintro e wx ⟨rfl, hbx⟩; (try have n0 := cell_on hbx n0); (try have f0 := froz_on hbx nz f0); (try have n1 := cell_on hbx n1); (try have f1 := froz_on hbx nz f1); (try have n2 := cell_on hbx n2); (try have f2 := froz_on hbx nz f2); (try have nz := Nat.lt_of_lt_of_le nz hbx.size))
            refine hK.out _ _ ?_ (fun hHeld => ?_)
            · exact below_step hHeld hbx
            clear hK K
            (try simp only [Act.put, List.setIfInBounds_toArray, List.set_cons_zero, List.set_cons_succ])
            refine wpAnyH_ready (rs := [8, 12]) (by kernel_rfl) (by simp) ?_
            refine AllReadyH.cons (o := ?oi9) ?hi9 (fun K hK => ?hstep9) ?hmore9
            case hi9 => (simp only [List.getElem?_toArray, List.getElem?_cons_succ, List.getElem?_cons_zero]; try rfl)
            case hstep9 =>
              go_simp
              (refine (Kk.out _).mono ?_; rintro e wx ⟨rfl, hbx⟩; (try have n0 := cell_on hbx n0); (try have f0 := froz_on hbx nz f0); (try have n1 := cell_on hbx n1); (try have f1 := froz_on hbx nz f1); (try have n2 := cell_on hbx n2); (try have f2 := froz_on hbx nz f2); (try have nz := Nat.lt_of_lt_of_le nz hbx.size))
              refine hK.out _ _ ?_ (fun hHeld => ?_)
              · exact below_step hHeld hbx
              clear hK K
              (try simp only [Act.put, List.setIfInBounds_toArray, List.set_cons_zero, List.set_cons_succ])
              refine wpAnyH_take (i := 9) (oi := ?oi10) (v := ?v10) ?hi10 (by kernel_rfl) (by kernel_rfl) (by kernel_rfl) ?hQ10 ?hy10 (by assumption) ?hrest10
              case hi10 => (simp only [List.getElem?_toArray, List.getElem?_cons_succ, List.getElem?_cons_zero]; try rfl)
              case hQ10 => exact fun _ _ _ h => h
              case hy10 =>
                refine Or.inl ⟨by rfl, ?_⟩
                (intro wq hSw; (try dsimp only at hSw); go_simp; try with_reducible rfl)
              (try simp only [Act.put, List.setIfInBounds_toArray, List.set_cons_zero, List.set_cons_succ])
              refine wpAnyH_take (i := 10) (oi := ?oi11) (v := ?v11) ?hi11 (by kernel_rfl) (by kernel_rfl) (by kernel_rfl) ?hQ11 ?hy11 (by assumption) ?hrest11
              case hi11 => (simp only [List.getElem?_toArray, List.getElem?_cons_succ, List.getElem?_cons_zero]; try rfl)
              case hQ11 => exact fun _ _ _ h => h
              case hy11 =>
                refine Or.inl ⟨by rfl, ?_⟩
                (intro wq hSw; (try dsimp only at hSw); go_simp; try with_reducible rfl)
              (try simp only [Act.put, List.setIfInBounds_toArray, List.set_cons_zero, List.set_cons_succ])
              refine wpAnyH_take (i := 11) (oi := ?oi12) (v := ?v12) ?hi12 (by kernel_rfl) (by kernel_rfl) (by kernel_rfl) ?hQ12 ?hy12 (by assumption) ?hrest12
              case hi12 => (simp only [List.getElem?_toArray, List.getElem?_cons_succ, List.getElem?_cons_zero]; try rfl)
              case hQ12 => exact fun _ _ _ h => h
              case hy12 =>
                refine Or.inl ⟨by rfl, ?_⟩
                (intro wq hSw; (try dsimp only at hSw); go_simp; try with_reducible rfl)
              (try simp only [Act.put, List.setIfInBounds_toArray, List.set_cons_zero, List.set_cons_succ])
              refine wpAnyH_ready (rs := [12]) (by kernel_rfl) (by simp) ?_
              refine AllReadyH.cons (o := ?oi13) ?hi13 (fun K hK => ?hstep13) AllReadyH.nil
              case hi13 => (simp only [List.getElem?_toArray, List.getElem?_cons_succ, List.getElem?_cons_zero]; try rfl)
              go_simp
              (have hvb := hHeld.size; (first | refine newvar_Kd ?_ | refine newvar_K ?_); intro wx hbx nv nf nz; have n0 := nv 0 _ rfl; have n1 := nv 1 _ rfl; have n2 := nv 2 _ rfl; have f0 := nf 0; have f1 := nf 1; have f2 := nf 2; clear nv nf)
              refine hK.out _ _ ?_ (fun hHeld => ?_)
              · exact below_step hHeld hbx
              clear hK K
              (try simp only [Act.put, List.setIfInBounds_toArray, List.set_cons_zero, List.set_cons_succ])
              refine wpAnyH_ready (rs := [13]) (by kernel_rfl) (by simp) ?_
              refine AllReadyH.cons (o := ?oi14) ?hi14 (fun K hK => ?hstep14) AllReadyH.nil
              case hi14 => (simp only [List.getElem?_toArray, List.getElem?_cons_succ, List.getElem?_cons_zero]; try rfl)
              go_simp
              (obtain ⟨z0, z1, z2⟩ := set3_cells n0 n1 n2 (.int .i64 2) (.int .i64 v) (.slice none 0 0))
              refine hK.out _ _ ?_ (fun hHeld => ?_)
              · exact below_set3 hHeld hvb
              clear hK K
              (try simp only [Act.put, List.setIfInBounds_toArray, List.set_cons_zero, List.set_cons_succ])
              refine wpAnyH_take (i := 14) (oi := ?oi15) (v := ?v15) ?hi15 (by kernel_rfl) (by kernel_rfl) (by kernel_rfl) ?hQ15 ?hy15 (by assumption) ?hrest15
              case hi15 => (simp only [List.getElem?_toArray, List.getElem?_cons_succ, List.getElem?_cons_zero]; try rfl)
              case hQ15 => exact fun _ _ _ h => h
              case hy15 =>
                refine Or.inl ⟨by rfl, ?_⟩
                (intro wq hSw; (try dsimp only at hSw); go_simp; try with_reducible rfl)
              (try simp only [Act.put, List.setIfInBounds_toArray, List.set_cons_zero, List.set_cons_succ])
              refine wpAnyH_done (by kernel_rfl) ?_ _
              refine NoPanic.normal ?_
              (go_wp2_with fail; go_meet; exact ⟨_, rfl, rfl, z0, z1, z2, hHeld⟩)
            refine AllReadyH.cons (o := ?oi16) ?hi16 (fun K hK => ?hstep16) ?hmore16
            case hi16 => (simp only [List.getElem?_toArray, List.getElem?_cons_succ, List.getElem?_cons_zero]; try rfl)
            case hstep16 =>
              go_simp
              (have hvb := hHeld.size; (first | refine newvar_Kd ?_ | refine newvar_K ?_); intro wx hbx nv nf nz; have n0 := nv 0 _ rfl; have n1 := nv 1 _ rfl; have n2 := nv 2 _ rfl; have f0 := nf 0; have f1 := nf 1; have f2 := nf 2; clear nv nf)
              refine hK.out _ _ ?_ (fun hHeld => ?_)
              · exact below_step hHeld hbx
              clear hK K
              (try simp only [Act.put, List.setIfInBounds_toArray, List.set_cons_zero, List.set_cons_succ])
              refine wpAnyH_ready (rs := [8]) (by kernel_rfl) (by simp) ?_
              refine AllReadyH.cons (o := ?oi17) ?hi17 (fun K hK => ?hstep17) AllReadyH.nil
              case hi17 => (simp only [List.getElem?_toArray, List.getElem?_cons_succ, List.getElem?_cons_zero]; try rfl)
              go_simp
              (refine (Kk.out _).mono ?_; rintro e wx ⟨rfl, hbx⟩; (try have n0 := cell_on hbx n0); (try have f0 := froz_on hbx nz f0); (try have n1 := cell_on hbx n1); (try have f1 := froz_on hbx nz f1); (try have n2 := cell_on hbx n2); (try have f2 := froz_on hbx nz f2); (try have nz := Nat.lt_of_lt_of_le nz hbx.size))
              refine hK.out _ _ ?_ (fun hHeld => ?_)
              · exact below_step hHeld hbx
              clear hK K
              (try simp only [Act.put, List.setIfInBounds_toArray, List.set_cons_zero, List.set_cons_succ])
              refine wpAnyH_take (i := 9) (oi := ?oi18) (v := ?v18) ?hi18 (by kernel_rfl) (by kernel_rfl) (by kernel_rfl) ?hQ18 ?hy18 (by assumption) ?hrest18
              case hi18 => (simp only [List.getElem?_toArray, List.getElem?_cons_succ, List.getElem?_cons_zero]; try rfl)
              case hQ18 => exact fun _ _ _ h => h
              case hy18 =>
                refine Or.inl ⟨by rfl, ?_⟩
                (intro wq hSw; (try dsimp only at hSw); go_simp; try with_reducible rfl)
              (try simp only [Act.put, List.setIfInBounds_toArray, List.set_cons_zero, List.set_cons_succ])
              refine wpAnyH_take (i := 10) (oi := ?oi19) (v := ?v19) ?hi19 (by kernel_rfl) (by kernel_rfl) (by kernel_rfl) ?hQ19 ?hy19 (by assumption) ?hrest19
              case hi19 => (simp only [List.getElem?_toArray, List.getElem?_cons_succ, List.getElem?_cons_zero]; try rfl)
              case hQ19 => exact fun _ _ _ h => h
              case hy19 =>
                refine Or.inl ⟨by rfl, ?_⟩
                (intro wq hSw; (try dsimp only at hSw); go_simp; try with_reducible rfl)
              (try simp only [Act.put, List.setIfInBounds_toArray, List.set_cons_zero, List.set_cons_succ])
              refine wpAnyH_take (i := 11) (oi := ?oi20) (v := ?v20) ?hi20 (by kernel_rfl) (by kernel_rfl) (by kernel_rfl) ?hQ20 ?hy20 (by assumption) ?hrest20
              case hi20 => (simp only [List.getElem?_toArray, List.getElem?_cons_succ, List.getElem?_cons_zero]; try rfl)
              case hQ20 => exact fun _ _ _ h => h
              case hy20 =>
                refine Or.inl ⟨by rfl, ?_⟩
                (intro wq hSw; (try dsimp only at hSw); go_simp; try with_reducible rfl)
              (try simp only [Act.put, List.setIfInBounds_toArray, List.set_cons_zero, List.set_cons_succ])
              refine wpAnyH_ready (rs := [13]) (by kernel_rfl) (by simp) ?_
              refine AllReadyH.cons (o := ?oi21) ?hi21 (fun K hK => ?hstep21) AllReadyH.nil
              case hi21 => (simp only [List.getElem?_toArray, List.getElem?_cons_succ, List.getElem?_cons_zero]; try rfl)
              go_simp
              (obtain ⟨z0, z1, z2⟩ := set3_cells n0 n1 n2 (.int .i64 2) (.int .i64 v) (.slice none 0 0))
              refine hK.out _ _ ?_ (fun hHeld => ?_)
              · exact below_set3 hHeld hvb
              clear hK K
              (try simp only [Act.put, List.setIfInBounds_toArray, List.set_cons_zero, List.set_cons_succ])
              refine wpAnyH_take (i := 14) (oi := ?oi22) (v := ?v22) ?hi22 (by kernel_rfl) (by kernel_rfl) (by kernel_rfl) ?hQ22 ?hy22 (by assumption) ?hrest22
              case hi22 => (simp only [List.getElem?_toArray, List.getElem?_cons_succ, List.getElem?_cons_zero]; try rfl)
              case hQ22 => exact fun _ _ _ h => h
              case hy22 =>
                refine Or.inl ⟨by rfl, ?_⟩
                (intro wq hSw; (try dsimp only at hSw); go_simp; try with_reducible rfl)
              (try simp only [Act.put, List.setIfInBounds_toArray, List.set_cons_zero, List.set_cons_succ])
              refine wpAnyH_done (by kernel_rfl) ?_ _
              refine NoPanic.normal ?_
              (go_wp2_with fail; go_meet; exact ⟨_, rfl, rfl, z0, z1, z2, hHeld⟩)
            exact AllReadyH.nil
          refine AllReadyH.cons (o := ?oi23) ?hi23 (fun K hK => ?hstep23) ?hmore23
          case hi23 => (simp only [List.getElem?_toArray, List.getElem?_cons_succ, List.getElem?_cons_zero]; try rfl)
          case hstep23 =>
            go_simp
            (have hvb := hHeld.size; (first | refine newvar_Kd ?_ | refine newvar_K ?_); intro wx hbx nv nf nz; have n0 := nv 0 _ rfl; have n1 := nv 1 _ rfl; have n2 := nv 2 _ rfl; have f0 := nf 0; have f1 := nf 1; have f2 := nf 2; clear nv nf)
            refine hK.out _ _ ?_ (fun hHeld => ?_)
            · exact below_step hHeld hbx
            clear hK K
            (try simp only [Act.put, List.setIfInBounds_toArray, List.set_cons_zero, List.set_cons_succ])
            refine wpAnyH_ready (rs := [7]) (by kernel_rfl) (by simp) ?_
            refine AllReadyH.cons (o := ?oi24) ?hi24 (fun K hK => ?hstep24) AllReadyH.nil
            case hi24 => (simp only [List.getElem?_toArray, List.getElem?_cons_succ, List.getElem?_cons_zero]; try rfl)
            go_simp
            (refine (num_any _ _).mono ?_; rintro e wx ⟨rfl, hbx⟩; (try have n0 := cell_on hbx n0); (try have f0 := froz_on hbx nz f0); (try have n1 := cell_on hbx n1); (try have f1 := froz_on hbx nz f1); (try have n2 := cell_on hbx n2); (try have f2 := froz_on hbx nz f2); (try have nz := Nat.lt_of_lt_of_le nz hbx.size))
            refine hK.out _ _ ?_ (fun hHeld => ?_)
            · exact below_step hHeld hbx
            clear hK K
            (try simp only [Act.put, List.setIfInBounds_toArray, List.set_cons_zero, List.set_cons_succ])
            refine wpAnyH_ready (rs := [8]) (by kernel_rfl) (by simp) ?_
            refine AllReadyH.cons (o := ?oi25) ?hi25 (fun K hK => ?hstep25) AllReadyH.nil
            case hi25 => (simp only [List.getElem?_toArray, List.getElem?_cons_succ, List.getElem?_cons_zero]; try rfl)
            go_simp
            (refine (Kk.out _).mono ?_; rintro e wx ⟨rfl, hbx⟩; (try have n0 := cell_on hbx n0); (try have f0 := froz_on hbx nz f0); (try have n1 := cell_on hbx n1); (try have f1 := froz_on hbx nz f1); (try have n2 := cell_on hbx n2); (try have f2 := froz_on hbx nz f2); (try have nz := Nat.lt_of_lt_of_le nz hbx.size))
            refine hK.out _ _ ?_ (fun hHeld => ?_)
            · exact below_step hHeld hbx
            clear hK K
            (try simp only [Act.put, List.setIfInBounds_toArray, List.set_cons_zero, List.set_cons_succ])
            refine wpAnyH_take (i := 9) (oi := ?oi26) (v := ?v26) ?hi26 (by kernel_rfl) (by kernel_rfl) (by kernel_rfl) ?hQ26 ?hy26 (by assumption) ?hrest26
            case hi26 => (simp only [List.getElem?_toArray, List.getElem?_cons_succ, List.getElem?_cons_zero]; try rfl)
            case hQ26 => exact fun _ _ _ h => h
            case hy26 =>
              refine Or.inl ⟨by rfl, ?_⟩
              (intro wq hSw; (try dsimp only at hSw); go_simp; try with_reducible rfl)
            (try simp only [Act.put, List.setIfInBounds_toArray, List.set_cons_zero, List.set_cons_succ])
            refine wpAnyH_take (i := 10) (oi := ?oi27) (v := ?v27) ?hi27 (by kernel_rfl) (by kernel_rfl) (by kernel_rfl) ?hQ27 ?hy27 (by assumption) ?hrest27
            case hi27 => (simp only [List.getElem?_toArray, List.getElem?_cons_succ, List.getElem?_cons_zero]; try rfl)
            case hQ27 => exact fun _ _ _ h => h
            case hy27 =>
              refine Or.inl ⟨by rfl, ?_⟩
              (intro wq hSw; (try dsimp only at hSw); go_simp; try with_reducible rfl)
            (try simp only [Act.put, List.setIfInBounds_toArray, List.set_cons_zero, List.set_cons_succ])
            refine wpAnyH_take (i := 11) (oi := ?oi28) (v := ?v28) ?hi28 (by kernel_rfl) (by kernel_rfl) (by kernel_rfl) ?hQ28 ?hy28 (by assumption) ?hrest28
            case hi28 => (simp only [List.getElem?_toArray, List.getElem?_cons_succ, List.getElem?_cons_zero]; try rfl)
            case hQ28 => exact fun _ _ _ h => h
            case hy28 =>
              refine Or.inl ⟨by rfl, ?_⟩
              (intro wq hSw; (try dsimp only at hSw); go_simp; try with_reducible rfl)
            (try simp only [Act.put, List.setIfInBounds_toArray, List.set_cons_zero, List.set_cons_succ])
            refine wpAnyH_ready (rs := [13]) (by kernel_rfl) (by simp) ?_
            refine AllReadyH.cons (o := ?oi29) ?hi29 (fun K hK => ?hstep29) AllReadyH.nil
            case hi29 => (simp only [List.getElem?_toArray, List.getElem?_cons_succ, List.getElem?_cons_zero]; try rfl)
            go_simp
            (obtain ⟨z0, z1, z2⟩ := set3_cells n0 n1 n2 (.int .i64 2) (.int .i64 v) (.slice none 0 0))
            refine hK.out _ _ ?_ (fun hHeld => ?_)
            · exact below_set3 hHeld hvb
            clear hK K
            (try simp only [Act.put, List.setIfInBounds_toArray, List.set_cons_zero, List.set_cons_succ])
            refine wpAnyH_take (i := 14) (oi := ?oi30) (v := ?v30) ?hi30 (by kernel_rfl) (by kernel_rfl) (by kernel_rfl) ?hQ30 ?hy30 (by assumption) ?hrest30
            case hi30 => (simp only [List.getElem?_toArray, List.getElem?_cons_succ, List.getElem?_cons_zero]; try rfl)
            case hQ30 => exact fun _ _ _ h => h
            case hy30 =>
              refine Or.inl ⟨by rfl, ?_⟩
              (intro wq hSw; (try dsimp only at hSw); go_simp; try with_reducible rfl)
            (try simp only [Act.put, List.setIfInBounds_toArray, List.set_cons_zero, List.set_cons_succ])
            refine wpAnyH_done (by kernel_rfl) ?_ _
            refine NoPanic.normal ?_
            (go_wp2_with fail; go_meet; exact ⟨_, rfl, rfl, z0, z1, z2, hHeld⟩)
          exact AllReadyH.nil
        refine AllReadyH.cons (o := ?oi31) ?hi31 (fun K hK => ?hstep31) ?hmore31
        case hi31 => (simp only [List.getElem?_toArray, List.getElem?_cons_succ, List.getElem?_cons_zero]; try rfl)
        case hstep31 =>
          go_simp
          (have hvb := hHeld.size; (first | refine newvar_Kd ?_ | refine newvar_K ?_); intro wx hbx nv nf nz; have n0 := nv 0 _ rfl; have n1 := nv 1 _ rfl; have n2 := nv 2 _ rfl; have f0 := nf 0; have f1 := nf 1; have f2 := nf 2; clear nv nf)
          refine hK.out _ _ ?_ (fun hHeld => ?_)
          · exact below_step hHeld hbx
          clear hK K
          (try simp only [Act.put, List.setIfInBounds_toArray, List.set_cons_zero, List.set_cons_succ])
          refine wpAnyH_ready (rs := [5]) (by kernel_rfl) (by simp) ?_
          refine AllReadyH.cons (o := ?oi32) ?hi32 (fun K hK => ?hstep32) AllReadyH.nil
          case hi32 => (simp only [List.getElem?_toArray, List.getElem?_cons_succ, List.getElem?_cons_zero]; try rfl)
          go_simp
          (refine (num_any _ _).mono ?_; rintro e wx ⟨rfl, hbx⟩; (try have n0 := cell_on hbx n0); (try have f0 := froz_on hbx nz f0); (try have n1 := cell_on hbx n1); (try have f1 := froz_on hbx nz f1); (try have n2 := cell_on hbx n2); (try have f2 := froz_on hbx nz f2); (try have nz := Nat.lt_of_lt_of_le nz hbx.size))
          refine hK.out _ _ ?_ (fun hHeld => ?_)
          · exact below_step hHeld hbx
          clear hK K
          (try simp only [Act.put, List.setIfInBounds_toArray, List.set_cons_zero, List.set_cons_succ])
          refine wpAnyH_ready (rs := [7]) (by kernel_rfl) (by simp) ?_
          refine AllReadyH.cons (o := ?oi33) ?hi33 (fun K hK => ?hstep33) AllReadyH.nil
          case hi33 => (simp only [List.getElem?_toArray, List.getElem?_cons_succ, List.getElem?_cons_zero]; try rfl)
          go_simp
          (refine (num_any _ _).mono ?_; rintro e wx ⟨rfl, hbx⟩; (try have n0 := cell_on hbx n0); (try have f0 := froz_on hbx nz f0); (try have n1 := cell_on hbx n1); (try have f1 := froz_on hbx nz f1); (try have n2 := cell_on hbx n2); (try have f2 := froz_on hbx nz f2); (try have nz := Nat.lt_of_lt_of_le nz hbx.size))
          refine hK.out _ _ ?_ (fun hHeld => ?_)
          · exact below_step hHeld hbx
          clear hK K
          (try simp only [Act.put, List.setIfInBounds_toArray, List.set_cons_zero, List.set_cons_succ])
          refine wpAnyH_ready (rs := [8]) (by kernel_rfl) (by simp) ?_
          refine AllReadyH.cons (o := ?oi34) ?hi34 (fun K hK => ?hstep34) AllReadyH.nil
          case hi34 => (simp only [List.getElem?_toArray, List.getElem?_cons_succ, List.getElem?_cons_zero]; try rfl)
          go_simp
          (refine (Kk.out _).mono ?_; rintro e wx ⟨rfl, hbx⟩; (try have n0 := cell_on hbx n0); (try have f0 := froz_on hbx nz f0); (try have n1 := cell_on hbx n1); (try have f1 := froz_on hbx nz f1); (try have n2 := cell_on hbx n2); (try have f2 := froz_on hbx nz f2); (try have nz := Nat.lt_of_lt_of_le nz hbx.size))
          refine hK.out _ _ ?_ (fun hHeld => ?_)
          · exact below_step hHeld hbx
          clear hK K
          (try simp only [Act.put, List.setIfInBounds_toArray, List.set_cons_zero, List.set_cons_succ])
          refine wpAnyH_take (i := 9) (oi := ?oi35) (v := ?v35) ?hi35 (by kernel_rfl) (by kernel_rfl) (by kernel_rfl) ?hQ35 ?hy35 (by assumption) ?hrest35
          case hi35 => (simp only [List.getElem?_toArray, List.getElem?_cons_succ, List.getElem?_cons_zero]; try rfl)
          case hQ35 => exact fun _ _ _ h => h
          case hy35 =>
            refine Or.inl ⟨by rfl, ?_⟩
            (intro wq hSw; (try dsimp only at hSw); go_simp; try with_reducible rfl)
          (try simp only [Act.put, List.setIfInBounds_toArray, List.set_cons_zero, List.set_cons_succ])
          refine wpAnyH_take (i := 10) (oi := ?oi36) (v := ?v36) ?hi36 (by kernel_rfl) (by kernel_rfl) (by kernel_rfl) ?hQ36 ?hy36 (by assumption) ?hrest36
          case hi36 => (simp only [List.getElem?_toArray, List.getElem?_cons_succ, List.getElem?_cons_zero]; try rfl)
          case hQ36 => exact fun _ _ _ h => h
          case hy36 =>
            refine Or.inl ⟨by rfl, ?_⟩
            (intro wq hSw; (try dsimp only at hSw); go_simp; try with_reducible rfl)
          (try simp only [Act.put, List.setIfInBounds_toArray, List.set_cons_zero, List.set_cons_succ])
          refine wpAnyH_take (i := 11) (oi := ?oi37) (v := ?v37) ?hi37 (by kernel_rfl) (by kernel_rfl) (by kernel_rfl) ?hQ37 ?hy37 (by assumption) ?hrest37
          case hi37 => (simp only [List.getElem?_toArray, List.getElem?_cons_succ, List.getElem?_cons_zero]; try rfl)
          case hQ37 => exact fun _ _ _ h => h
          case hy37 =>
            refine Or.inl ⟨by rfl, ?_⟩
            (intro wq hSw; (try dsimp only at hSw); go_simp; try with_reducible rfl)
          (try simp only [Act.put, List.setIfInBounds_toArray, List.set_cons_zero, List.set_cons_succ])
          refine wpAnyH_ready (rs := [13]) (by kernel_rfl) (by simp) ?_
          refine AllReadyH.cons (o := ?oi38) ?hi38 (fun K hK => ?hstep38) AllReadyH.nil
          case hi38 => (simp only [List.getElem?_toArray, List.getElem?_cons_succ, List.getElem?_cons_zero]; try rfl)
          go_simp
          (obtain ⟨z0, z1, z2⟩ := set3_cells n0 n1 n2 (.int .i64 2) (.int .i64 v) (.slice none 0 0))
          refine hK.out _ _ ?_ (fun hHeld => ?_)
          · exact below_set3 hHeld hvb
          clear hK K
          (try simp only [Act.put, List.setIfInBounds_toArray, List.set_cons_zero, List.set_cons_succ])
          refine wpAnyH_take (i := 14) (oi := ?oi39) (v := ?v39) ?hi39 (by kernel_rfl) (by kernel_rfl) (by kernel_rfl) ?hQ39 ?hy39 (by assumption) ?hrest39
          case hi39 => (simp only [List.getElem?_toArray, List.getElem?_cons_succ, List.getElem?_cons_zero]; try rfl)
          case hQ39 => exact fun _ _ _ h => h
          case hy39 =>
            refine Or.inl ⟨by rfl, ?_⟩
            (intro wq hSw; (try dsimp only at hSw); go_simp; try with_reducible rfl)
          (try simp only [Act.put, List.setIfInBounds_toArray, List.set_cons_zero, List.set_cons_succ])
          refine wpAnyH_done (by kernel_rfl) ?_ _
          refine NoPanic.normal ?_
          (go_wp2_with fail; go_meet; exact ⟨_, rfl, rfl, z0, z1, z2, hHeld⟩)
        exact AllReadyH.nil
      case rest =>
        obtain ⟨Xb, rfl, rfl, X0, X1, X2, hbx⟩ := hcut
        have cs := cell_on hbx cs
        have dk := cell_on hbx dk
        have dfk := froz_on hbx d4 dfk
        have hvk := hvk.out
        go_wp2_with fail
        go_roundw
        case rel =>
          have Dk1 := fun j hj => cell_on hbx (D1.out j hj)
          have Dk3 := fun j hj => cell_on hbx (D3.out j hj)
          refine ⟨k + 1, by omega, by go_num, fun j hj => ?_, fun j => ?_, fun j hj => ?_, ?_, ?_⟩
          · by_cases hjk : j = k
            · subst hjk
              rw [if_pos (by omega), HF.out]
              exact World.cell?_setCell_same' _ _ _ (by rw [dk]; rfl)
            · rw [World.cell?_setCell_other _ _ _ _ (by simp), Dk1 j hj]
              by_cases hjl : j < k
              · rw [if_pos hjl, if_pos (by omega)]
              · rw [if_neg hjl, if_neg (by omega)]
          · rw [World.frozen?_setCell]
            exact froz_on hbx d4 (D2.out j)
          · rw [World.cell?_setCell_other _ _ _ _ (by simp)]
            exact Dk3 j hj
          · have := hbx.size
            simp [World.setCell]
            omega
          · exact (below_step d5 hbx).setCell (p := ⟨q, k, none⟩) g5 _
        case measure => simp [intOf]; omega
    · obtain rfl : k = 6 := by omega
      have e0 := d1 0 (by omega)
      have e1 := d1 1 (by omega)
      have e2 := d1 2 (by omega)
      have e3 := d1 3 (by omega)
      have e4 := d1 4 (by omega)
      have e5 := d1 5 (by omega)
      simp only [if_pos (show 0 < 6 by omega), if_pos (show 1 < 6 by omega), if_pos (show 2 < 6 by omega), if_pos (show 3 < 6 by omega), if_pos (show 4 < 6 by omega), if_pos (show 5 < 6 by omega)] at e0 e1 e2 e3 e4 e5
      have D1 := hid d1
      clear d1 d2 d3 K hv
      go_wp2_with fail
      go_loopw [11, 12] (fun n i W => ∃ k : Nat, k ≤ 3 ∧ i = .int .i64 k ∧ n = .int .i64 (upN f k) ∧ W = wr) (fun _ i _ => 3 - (intOf i).toNat)
      case atStart => exact ⟨0, by omega, rfl, rfl, rfl⟩
      case round =>
        obtain ⟨k, hk, rfl, rfl, rfl⟩ := hrel
        by_cases hlt : k < 3
        · have ck := D1.out k (by omega)
          rw [if_pos (by omega)] at ck
          have i1 : (k : Int) < 6 := by omega
          have i2 : (k : Int) < 3 := by omega
          have u1 := upN_in f k
          have u2 : IntKind.i64.wrap (upN f k + 1) = upN f k + 1 := wrap_of _ (by omega) (by omega)
          have U := hid u1
          clear u1
          cases hf : f k with
          | true =>
            rw [hf] at ck
            have U2 := hid (upN_yes hf)
            clear hf
            go_wp2_with fail
            go_roundw
            case rel => exact ⟨k + 1, by omega, by go_num, by rw [U2.out], trivial⟩
            case measure => simp [intOf]; omega
          | false =>
            rw [hf] at ck
            have U2 := hid (upN_no hf)
            clear hf
            go_wp2_with fail
            go_roundw
            case rel => exact ⟨k + 1, by omega, by go_num, by rw [U2.out], trivial⟩
            case measure => simp [intOf]; omega
        · obtain rfl : k = 3 := by omega
          rw [h3.out]
          have q0 := p0.out
          have q1 := p1.out
          have q2 := p2.out
          generalize f 0 = f0 at *
          generalize f 1 = f1 at *
          generalize f 2 = f2 at *
          generalize f 3 = f3 at *
          generalize f 4 = f4 at *
          generalize f 5 = f5 at *
          go_wp2_with fail
          go_ret
          exact ⟨rfl, d5⟩
def ordF (a b : Int) : Nat → Bool
  | 0 => decide (a < b) | 1 => a == b | 2 => decide (b < a) | 3 => decide (a ≤ b) | 4 => a != b | _ => decide (b ≤ a)
theorem orders_law (a b : Int) (w : World) :
    Calls Try.prog 5 #[.int .i64 a, .int .i64 b] w fun e w' => e = .returned (.bool true) ∧ Below w.heap.size w w' := by
  refine orders_main (ordF a b) (fun k => if ordF a b k then 1 else 0) a b w (hid fun k => ?_) (hid fun k hk w => ?_) (hid ?_) (hid ?_) (hid ?_) (hid ?_)
  · cases ordF a b k <;> rfl
  · rcases k with _ | _ | _ | _ | _ | _ | k
    · exact two_lss (A := none) (B := none) (n := 0) (m := 0) (c := 0) (d := 0) a b w
    · exact two_eql (A := none) (B := none) (n := 0) (m := 0) (c := 0) (d := 0) a b w
    · exact two_gtr (A := none) (B := none) (n := 0) (m := 0) (c := 0) (d := 0) a b w
    · exact two_leq (A := none) (B := none) (n := 0) (m := 0) (c := 0) (d := 0) a b w
    · exact two_neq (A := none) (B := none) (n := 0) (m := 0) (c := 0) (d := 0) a b w
    · exact two_geq (A := none) (B := none) (n := 0) (m := 0) (c := 0) (d := 0) a b w
    · omega
  · simp only [upN, ordF, decide_eq_true_eq, beq_iff_eq]
    split <;> split <;> split <;> omega
  · simp only [ordF]
    rw [beq_iff_eq]
    by_cases h : a ≤ b
    · rw [decide_eq_true h, decide_eq_false (by omega)]; rfl
    · rw [decide_eq_false h, decide_eq_true (by omega)]; rfl
  · simp only [ordF]
    rw [beq_iff_eq]
    rfl
  · simp only [ordF]
    rw [beq_iff_eq]
    by_cases h : b ≤ a
    · rw [decide_eq_true h, decide_eq_false (by omega)]; rfl
    · rw [decide_eq_false h, decide_eq_true (by omega)]; rfl
end Go.Proofs.Yteioiebkielaeaa
