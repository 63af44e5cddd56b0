import Derived.Test.YtlekoeddcjjjdaaStoreU
import Derived.Test.YtlekoeddcjjjdaaJourT
/-! the ref's Put, with the word where the new store lies -/
namespace Go.Proofs.Ytlekoeddcjjjdaa
open Go.RowKit Go.Cov Go.Lib
theorem newp_nil {w w' : World} {xs : List Pr} : NewP w w' xs none [] := ⟨fun _ e => (by cases e), fun _ h => (by cases h)⟩
theorem newp_of {w w' wd w9 : World} {xs ys : List Pr} {C : Option Addr} {p : Pr} (h1 : ∀ ad, C = some ad → w.heap.size ≤ ad.block ∧ ad.block < wd.heap.size) (h2 : ∀ y ∈ ys, y ∈ xs ∨ y = p)
    (h3 : (∀ ad, p.kA = some ad → w.heap.size ≤ ad.block ∧ ad.block < w9.heap.size) ∧ ∀ ad, p.vA = some ad → w.heap.size ≤ ad.block ∧ ad.block < w9.heap.size) (h4 : wd.heap.size ≤ w'.heap.size) (h5 : w9.heap.size ≤ w'.heap.size) : NewP w w' xs C ys :=
  ⟨fun ad e => ⟨(h1 ad e).1, Nat.lt_of_lt_of_le (h1 ad e).2 h4⟩, fun y hy => (h2 y hy).imp id (fun e => by
    subst e
    exact ⟨fun ad e => ⟨(h3.1 ad e).1, Nat.lt_of_lt_of_le (h3.1 ad e).2 h5⟩, fun ad e => ⟨(h3.2 ad e).1, Nat.lt_of_lt_of_le (h3.2 ad e).2 h5⟩⟩)⟩
set_option maxRecDepth 100000 in
set_option maxHeartbeats 3200000 in
theorem rput_k {A B V : Option Addr} {c d f : Nat} {xs : List Pr} {L : PL} {m v : List UInt8} {w : World} (h : St w A c xs L) (hz : xs.length ≤ 1000000) (hs : sizeP L ≤ 100000000) (g : Rd w B (m.map byt)) (gv : Rd w V (v.map byt)) :
    Calls Try.prog 31 #[.slice A xs.length c, .slice B m.length d, .slice V v.length f] w fun e w' => ∃ C q ys, e = .returned (.tuple #[.slice C (ys : List Pr).length q, .int .i64 (putR L m v).2]) ∧ St w' C q ys (putR L m v).1 ∧ NewP w w' xs C ys ∧ Below w.heap.size w w' := by
  by_cases hbig : 64 < m.length ∨ 256 < v.length
  · have hp : putR L m v = ([], 1) := by rw [putR, if_pos hbig]
    rw [hp]
    have H := hid (show (64 : Int) < m.length ∨ ¬ (64 : Int) < m.length ∧ (256 : Int) < v.length by omega)
    clear hbig hp
    rcases H.out with j1 | ⟨j1, j2⟩
    all_goals
      go_enter Try.func31, Try.ntmps31
      go_wp2_with fail
      go_ret2
      exact ⟨none, 0, [], rfl, ⟨Els.nil _ _ _, Nat.le_refl _, rfl⟩, newp_nil, Below.refl _ _⟩
  · have j1 : ¬ (64 : Int) < m.length := by omega
    have j2 : ¬ (256 : Int) < v.length := by omega
    have hm64 : m.length ≤ 64 := by omega
    have hv256 : v.length ≤ 256 := by omega
    have HP := hid (show putR L m v = if 2048 < sizeP (insP L m v) then ([], 71) else (insP L m v, 0) by rw [putR, if_neg hbig])
    have hcap := h.2.1
    have HD := hid h.2.2
    have HOLD := hid (fun a (ha : a ∈ xs) => h.1.2 a ha)
    have hcases := ixF_data (fun k => decide (k = m)) xs
    rw [h.2.2] at hcases
    have KF := hid (fun W (hW : Below w.heap.size w W) => rfindp_any (c := c) (d := d) (h.below hW).1 (by omega) (g.below hW))
    clear hbig
    rcases hcases with ⟨h1, h2⟩ | ⟨i, hi, h1, h2⟩
    · have hno : ∀ x ∈ xs, x.k ≠ m := fun x hx e => by
        have := List.findIdx?_eq_none_iff.1 h2 x.data (by rw [← h.2.2]; exact List.mem_map_of_mem hx)
        have e2 : decide (x.data.1 = m) = true := decide_eq_true e
        rw [e2] at this
        cases this
      have HNO := hid hno
      have HH2 := hid h2
      have HLEN := hid h.len
      rw [h1] at KF
      clear hno h1 h2
      go_enter Try.func31, Try.ntmps31
      have ba := below_alloc w (.cells #[] 5)
      have ga := g.below ba
      go_wp2_with (first | (at_builtin; refine wpList_app rfl (.tmp 19) (.tmp 20) 30 rfl w.heap.size 5 Try.underlying30 infoB rfl (by decide) (.slice (some ⟨w.heap.size, 0, none⟩) 0 0) 0 [] rfl (madeB_own w 5) B m.length d (m.map byt) rfl (by simp) ga (byt_one m) (by omega) (by omega) (by simp) ?_; intro v5 w5 hin5 hg5 hat5; have b5 : Below w.heap.size w w5 := ba.grown hg5 (by simp) (by intro k hk; simp [Value.ownBlock] at hk; omega); rw [Nat.zero_add, List.nil_append] at hin5; obtain ⟨Ka, kc, hv5, _⟩ := own_shape hin5; subst hv5; have slk := own_sl hin5; have bb := below_alloc w5 (.cells #[] 5); have b6 := below_step b5 bb; have gb := gv.below b6) | (at_builtin; refine wpList_app rfl (.tmp 22) (.tmp 23) 30 rfl w5.heap.size 5 Try.underlying30 infoB rfl (by decide) (.slice (some ⟨w5.heap.size, 0, none⟩) 0 0) 0 [] rfl (madeB_own w5 5) V v.length f (v.map byt) rfl (by simp) gb (byt_one v) (by omega) (by omega) (by simp) ?_; intro v7 w7 hin7 hg7 hat7; have b57 : Below w5.heap.size w5 w7 := bb.grown hg7 (by simp) (by intro k hk; simp [Value.ownBlock] at hk; omega); rw [Nat.zero_add, List.nil_append] at hin7; obtain ⟨U, uc, hv7, _⟩ := own_shape hin7; subst hv7; have slv := own_sl hin7; have b7 := below_step b5 b57; have slk := slk.keep (fun p u hp => cell_on b57 hp)))
      have ha8 := below_alloc w7 (.cells #[.slice Ka m.length kc, .slice U v.length uc] 47)
      have P0 := box_cell w7 #[.slice Ka m.length kc, .slice U v.length uc] 47 0 _ rfl
      have P1 := box_cell w7 #[.slice Ka m.length kc, .slice U v.length uc] 47 1 _ rfl
      have b8 := below_step b7 ha8
      have slk := slk.keep (fun p u hp => cell_on ha8 hp)
      have slv := slv.keep (fun p u hp => cell_on ha8 hp)
      refine (KF.out _ b8).mono ?_
      rintro e w9 ⟨rfl, hb9⟩
      have P0 := cell_on hb9 P0
      have P1 := cell_on hb9 P1
      have b9 := below_step b8 hb9
      have slk := slk.keep (fun p u hp => cell_on hb9 hp)
      have slv := slv.keep (fun p u hp => cell_on hb9 hp)
      have pw7 : w7.heap.size < w9.heap.size := by have h1 := ha8.size; have h2 := hb9.size; rw [show (w7.alloc (.cells #[.slice Ka m.length kc, .slice U v.length uc] 47)).heap.size = w7.heap.size + 1 from size_run] at h2; omega
      have FKU := hid (show (∀ ad, Ka = some ad → w.heap.size ≤ ad.block ∧ ad.block < w9.heap.size) ∧ ∀ ad, U = some ad → w.heap.size ≤ ad.block ∧ ad.block < w9.heap.size from ⟨fun ad e => by subst e; have := own_lt hin5 (k := ad.block) rfl; have := b57.size; omega, fun ad e => by subst e; have := own_lt hin7 (k := ad.block) rfl; have := b5.size; omega⟩)
      go_wp2_with fail
      go_loopw [9] (fun iv W => ∃ k : Nat, k ≤ xs.length ∧ iv = .int .i64 k ∧ Hid (∀ j, (hj : j < xs.length) → j < k → ¬ 0 < compareBytes xs[j].k m) ∧ Below w9.heap.size w9 W) (fun iv _ => xs.length - (RowKit.intOf iv).toNat)
      case atStart => exact ⟨0, by omega, rfl, hid (fun j hj hk => by omega), Below.refl _ _⟩
      case round =>
        obtain ⟨k, hk, rfl, HB, hbr⟩ := hrel
        by_cases hlt : k < xs.length
        · obtain ⟨ad, hadA, p1, p2, p3, _⟩ := pr_at (h.below (below_step b9 hbr)).1 k hlt
          have hxm := HNO.out xs[k] (List.getElem_mem hlt)
          have i1 : (k : Int) < xs.length := by omega
          obtain ⟨x, hxk⟩ : ∃ x, xs[k] = x := ⟨_, rfl⟩
          rw [hxk] at p1 p3 hxm
          have HXK := hid hxk
          clear hxk
          unfold Pr.key at p1
          have p1q := fun W (hW : Below wr.heap.size wr W) => cell_on hW p1
          have gr := (g.below (below_step b9 hbr))
          have cv1 := fun W (hW : Below wr.heap.size wr W) => conv_bs (P := Try.prog) Try.underlying30 Try.underlying5 Try.underlying9 (p3.below hW) x.kc
          have cv2 := fun W (hW : Below wr.heap.size wr W) => conv_bs (P := Try.prog) Try.underlying30 Try.underlying5 Try.underlying9 (gr.below hW) d
          have s1 := str_less x.k m
          have s2 := str_beq x.k m
          rw [decide_eq_false hxm] at s2
          go_upto_region 9 with fail
          by_cases hc0 : 0 < compareBytes x.k m
          · rw [decide_eq_false (by omega)] at s1
            have HAT := hid (atP_none h.2.2 HH2.out hk HB.out (fun _ => by rw [HXK.out]; exact hc0))
            subst hadA
            clear hc0 hxm
            refine wp_region_noPanic ?_
            refine wp_region_held_drew (S := (fun W => Below wr.heap.size wr W)) (by kernel_rfl) ?_ (fun hHeld => ?_)
            · exact (Below.refl _ _).drew
            refine wpAnyH_take (i := 0) (oi := ?oi1) (v := ?v1) ?hi1 (by kernel_rfl) (by kernel_rfl) (by kernel_rfl) ?hQ1 ?hy1 (by assumption) ?hrest1
            case hi1 => (simp only [List.getElem?_toArray, List.getElem?_cons_zero]; try rfl)
            case hQ1 => exact fun _ _ _ h => h
            case hy1 =>
              refine Or.inl ⟨by rfl, ?_⟩
              (intro wq hSw; (try dsimp only at hSw); go_simp; try with_reducible rfl)
            (try simp only [Act.put, List.setIfInBounds_toArray, List.set_cons_zero, List.set_cons_succ])
            refine wpAnyH_take (i := 1) (oi := ?oi2) (v := ?v2) ?hi2 (by kernel_rfl) (by kernel_rfl) (by kernel_rfl) ?hQ2 ?hy2 (by assumption) ?hrest2
            case hi2 => (simp only [List.getElem?_toArray, List.getElem?_cons_succ, List.getElem?_cons_zero]; try rfl)
            case hQ2 => exact fun _ _ _ h => h
            case hy2 =>
              refine Or.inl ⟨by rfl, ?_⟩
              (intro wq hSw; (try dsimp only at hSw); go_simp; try with_reducible rfl)
            (try simp only [Act.put, List.setIfInBounds_toArray, List.set_cons_zero, List.set_cons_succ])
            refine wpAnyH_take (i := 2) (oi := ?oi3) (v := ?v3) ?hi3 (by kernel_rfl) (by kernel_rfl) (by kernel_rfl) ?hQ3 ?hy3 (by assumption) ?hrest3
            case hi3 => (simp only [List.getElem?_toArray, List.getElem?_cons_succ, List.getElem?_cons_zero]; try rfl)
            case hQ3 => exact fun _ _ _ h => h
            case hy3 =>
              refine Or.inl ⟨by rfl, ?_⟩
              (intro wq hSw; (try dsimp only at hSw); go_simp; try with_reducible rfl)
            (try simp only [Act.put, List.setIfInBounds_toArray, List.set_cons_zero, List.set_cons_succ])
            refine wpAnyH_take (i := 3) (oi := ?oi4) (v := ?v4) ?hi4 (by kernel_rfl) (by kernel_rfl) (by kernel_rfl) ?hQ4 ?hy4 (by assumption) ?hrest4
            case hi4 => (simp only [List.getElem?_toArray, List.getElem?_cons_succ, List.getElem?_cons_zero]; try rfl)
            case hQ4 => exact fun _ _ _ h => h
            case hy4 =>
              refine Or.inl ⟨by rfl, ?_⟩
              (intro wq hSw; (try dsimp only at hSw); go_simp; try with_reducible rfl)
            (try simp only [Act.put, List.setIfInBounds_toArray, List.set_cons_zero, List.set_cons_succ])
            refine wpAnyH_take (i := 4) (oi := ?oi5) (v := ?v5) ?hi5 (by kernel_rfl) (by kernel_rfl) (by kernel_rfl) ?hQ5 ?hy5 (by assumption) ?hrest5
            case hi5 => (simp only [List.getElem?_toArray, List.getElem?_cons_succ, List.getElem?_cons_zero]; try rfl)
            case hQ5 => exact fun _ _ _ h => h
            case hy5 =>
              refine Or.inl ⟨by rfl, ?_⟩
              (intro wq hSw; (try dsimp only at hSw); go_simp; try with_reducible rfl)
            (try simp only [Act.put, List.setIfInBounds_toArray, List.set_cons_zero, List.set_cons_succ])
            refine wpAnyH_take (i := 5) (oi := ?oi6) (v := ?v6) ?hi6 (by kernel_rfl) (by kernel_rfl) (by kernel_rfl) ?hQ6 ?hy6 (by assumption) ?hrest6
            case hi6 => (simp only [List.getElem?_toArray, List.getElem?_cons_succ, List.getElem?_cons_zero]; try rfl)
            case hQ6 => exact fun _ _ _ h => h
            case hy6 =>
              refine Or.inl ⟨by rfl, ?_⟩
              (intro wq hSw; (try dsimp only at hSw); go_simp; try with_reducible rfl)
            (try simp only [Act.put, List.setIfInBounds_toArray, List.set_cons_zero, List.set_cons_succ])
            refine wpAnyH_take (i := 6) (oi := ?oi7) (v := ?v7) ?hi7 (by kernel_rfl) (by kernel_rfl) (by kernel_rfl) ?hQ7 ?hy7 (by assumption) ?hrest7
            case hi7 => (simp only [List.getElem?_toArray, List.getElem?_cons_succ, List.getElem?_cons_zero]; try rfl)
            case hQ7 => exact fun _ _ _ h => h
            case hy7 =>
              refine Or.inl ⟨by rfl, ?_⟩
              (intro wq hSw; (try dsimp only at hSw); go_simp; try with_reducible rfl)
            (try simp only [Act.put, List.setIfInBounds_toArray, List.set_cons_zero, List.set_cons_succ])
            refine wpAnyH_take (i := 7) (oi := ?oi8) (v := ?v8) ?hi8 (by kernel_rfl) (by kernel_rfl) (by kernel_rfl) ?hQ8 ?hy8 (by assumption) ?hrest8
            case hi8 => (simp only [List.getElem?_toArray, List.getElem?_cons_succ, List.getElem?_cons_zero]; try rfl)
            case hQ8 => exact fun _ _ _ h => h
            case hy8 =>
              refine Or.inl ⟨by rfl, ?_⟩
              (intro wq hSw; (try dsimp only at hSw); go_simp; try with_reducible rfl)
            (try simp only [Act.put, List.setIfInBounds_toArray, List.set_cons_zero, List.set_cons_succ])
            refine wpAnyH_take (i := 8) (oi := ?oi9) (v := ?v9) ?hi9 (by kernel_rfl) (by kernel_rfl) (by kernel_rfl) ?hQ9 ?hy9 (by assumption) ?hrest9
            case hi9 => (simp only [List.getElem?_toArray, List.getElem?_cons_succ, List.getElem?_cons_zero]; try rfl)
            case hQ9 => exact fun _ _ _ h => h
            case hy9 =>
              refine Or.inl ⟨by rfl, ?_⟩
              (intro wq hSw; (try dsimp only at hSw); go_simp; try with_reducible rfl)
            (try simp only [Act.put, List.setIfInBounds_toArray, List.set_cons_zero, List.set_cons_succ])
            refine wpAnyH_take (i := 9) (oi := ?oi10) (v := ?v10) ?hi10 (by kernel_rfl) (by kernel_rfl) (by kernel_rfl) ?hQ10 ?hy10 (by assumption) ?hrest10
            case hi10 => (simp only [List.getElem?_toArray, List.getElem?_cons_succ, List.getElem?_cons_zero]; try rfl)
            case hQ10 => exact fun _ _ _ h => h
            case hy10 =>
              refine Or.inl ⟨by rfl, ?_⟩
              (intro wq hSw; (try dsimp only at hSw); go_simp; try with_reducible rfl)
            (try simp only [Act.put, List.setIfInBounds_toArray, List.set_cons_zero, List.set_cons_succ])
            refine wpAnyH_take (i := 10) (oi := ?oi11) (v := ?v11) ?hi11 (by kernel_rfl) (by kernel_rfl) (by kernel_rfl) ?hQ11 ?hy11 (by assumption) ?hrest11
            case hi11 => (simp only [List.getElem?_toArray, List.getElem?_cons_succ, List.getElem?_cons_zero]; try rfl)
            case hQ11 => exact fun _ _ _ h => h
            case hy11 =>
              refine Or.inl ⟨by rfl, ?_⟩
              (intro wq hSw; (try dsimp only at hSw); go_simp; try with_reducible rfl)
            (try simp only [Act.put, List.setIfInBounds_toArray, List.set_cons_zero, List.set_cons_succ])
            refine wpAnyH_take (i := 11) (oi := ?oi12) (v := ?v12) ?hi12 (by kernel_rfl) (by kernel_rfl) (by kernel_rfl) ?hQ12 ?hy12 (by assumption) ?hrest12
            case hi12 => (simp only [List.getElem?_toArray, List.getElem?_cons_succ, List.getElem?_cons_zero]; try rfl)
            case hQ12 => exact fun _ _ _ h => h
            case hy12 =>
              refine Or.inl ⟨by rfl, ?_⟩
              (intro wq hSw; (try dsimp only at hSw); go_simp; try with_reducible rfl)
            (try simp only [Act.put, List.setIfInBounds_toArray, List.set_cons_zero, List.set_cons_succ])
            refine wpAnyH_take (i := 12) (oi := ?oi13) (v := ?v13) ?hi13 (by kernel_rfl) (by kernel_rfl) (by kernel_rfl) ?hQ13 ?hy13 (by assumption) ?hrest13
            case hi13 => (simp only [List.getElem?_toArray, List.getElem?_cons_succ, List.getElem?_cons_zero]; try rfl)
            case hQ13 => exact fun _ _ _ h => h
            case hy13 =>
              refine Or.inl ⟨by rfl, ?_⟩
              (intro wq hSw; (try dsimp only at hSw); go_simp; try with_reducible rfl)
            (try simp only [Act.put, List.setIfInBounds_toArray, List.set_cons_zero, List.set_cons_succ])
            refine wpAnyH_take (i := 13) (oi := ?oi14) (v := ?v14) ?hi14 (by kernel_rfl) (by kernel_rfl) (by kernel_rfl) ?hQ14 ?hy14 (by assumption) ?hrest14
            case hi14 => (simp only [List.getElem?_toArray, List.getElem?_cons_succ, List.getElem?_cons_zero]; try rfl)
            case hQ14 => exact fun _ _ _ h => h
            case hy14 =>
              refine Or.inl ⟨by rfl, ?_⟩
              (intro wq hSw; (try dsimp only at hSw); go_simp; try with_reducible rfl)
            (try simp only [Act.put, List.setIfInBounds_toArray, List.set_cons_zero, List.set_cons_succ])
            refine wpAnyH_take (i := 14) (oi := ?oi15) (v := ?v15) ?hi15 (by kernel_rfl) (by kernel_rfl) (by kernel_rfl) ?hQ15 ?hy15 (by assumption) ?hrest15
            case hi15 => (simp only [List.getElem?_toArray, List.getElem?_cons_succ, List.getElem?_cons_zero]; try rfl)
            case hQ15 => exact fun _ _ _ h => h
            case hy15 =>
              refine Or.inl ⟨by rfl, ?_⟩
              (intro wq hSw; (try dsimp only at hSw); go_simp; try with_reducible rfl)
            (try simp only [Act.put, List.setIfInBounds_toArray, List.set_cons_zero, List.set_cons_succ])
            refine wpAnyH_done (by kernel_rfl) ?_ _
            refine NoPanic.normal ?_
            clear p1q cv1 cv2 s1 s2 p1 p2 p3 gr
            have HLE := hid (show sizeP (insP L m v) ≤ sizeP L + 8 + (m.length + v.length) by
              rw [insP, HAT.out]
              exact sizeP_ins L m v k k (by omega) (by have := HLEN.out; omega))
            have HQ := hid (show (2048 : Int) < sizeP (insP L m v) ∧ putR L m v = ([], 71) ∨ ¬ (2048 : Int) < sizeP (insP L m v) ∧ putR L m v = (insP L m v, 0) from by
              rw [HP.out]
              by_cases hq : 2048 < sizeP (insP L m v)
              · rw [if_pos hq]; exact .inl ⟨by omega, rfl⟩
              · rw [if_neg hq]; exact .inr ⟨by omega, rfl⟩)
            have HSZ := hid (show sizeP (insP L m v) ≤ 1000000000000000 from by
              have h1 := HLE.out
              omega)
            have sl1 := fun W => run_slice_to (P := Try.prog) Try.underlying22 infoP (some ad) xs.length c k .i64 (k : Int) rfl (by omega) W
            have sl2 := fun W => run_slice_from (P := Try.prog) Try.underlying22 infoP (some ad) xs.length c k .i64 (k : Int) (by omega) (by omega) W
            obtain ⟨A2, hA2⟩ : ∃ A2, cutA (some ad) c k 2 = A2 := ⟨_, rfl⟩
            rw [hA2] at sl2
            have bdr := (Below.refl wr.heap.size wr).drew
            obtain ⟨wq, hwq⟩ : ∃ wq, wr.drew = wq := ⟨_, rfl⟩
            rw [hwq] at bdr ⊢
            clear hwq
            have bq0 := below_step hbr bdr
            have bq := below_step b9 bq0
            have P0 := cell_on bq0 P0
            have P1 := cell_on bq0 P1
            have slk := slk.keep (fun p u hp => cell_on bq0 hp)
            have slv := slv.keep (fun p u hp => cell_on bq0 hp)
            have HINS := hid (show (xs.take k ++ (⟨Ka, kc, m, U, uc, v⟩ : Pr) :: xs.drop k).map Pr.data = insP L m v from by
              rw [insP, HAT.out, ← HD.out, List.map_append, List.map_cons, List.map_take, List.map_drop]; rfl)
            have HEL := hid (fun (a : Pr) (ha : a ∈ xs.take k ++ (⟨Ka, kc, m, U, uc, v⟩ : Pr) :: xs.drop k) q (hq : q ∈ prEl.cons a) => (show Sl wq q.1 q.2 from by
              rcases List.mem_append.1 ha with ha | ha
              · exact (HOLD.out a (List.mem_of_mem_take ha) q hq).keep (fun p u hp => cell_on bq hp)
              · rcases List.mem_cons.1 ha with rfl | ha
                · rcases List.mem_cons.1 hq with rfl | hq
                  · exact slk
                  · rw [List.mem_singleton.1 hq]; exact slv
                · exact (HOLD.out a (List.mem_of_mem_drop ha) q hq).keep (fun p u hp => cell_on bq hp)))
            have P0q := fun W (hW : Below wq.heap.size wq W) => cell_on hW P0
            have P1q := fun W (hW : Below wq.heap.size wq W) => cell_on hW P1
            have hEt := hid (fun W (hW : Below wq.heap.size wq W) => (h.below (below_step bq hW)).1.take k)
            have hEd := hid (fun W (hW : Below wq.heap.size wq W) => (h.below (below_step bq hW)).1.cut k hcap)
            rw [show prEl.sz = 2 from rfl, hA2] at hEd
            have hlt1 := hid (show (xs.take k).length = k by simp; omega)
            have hld1 := hid (show (xs.drop k).length = xs.length - k by simp)
            have bcur := (Below.refl wq.heap.size wq).drew
            go_upto_region 11 with fail
            refine wp_region_noPanic ?_
            refine wp_region_held_drew (S := (fun W => Below wq.heap.size wq W)) (by kernel_rfl) ?_ (fun hHeld => ?_)
            · exact (Below.refl _ _).drew
            refine wpAnyH_take (i := 0) (oi := ?oi16) (v := ?v16) ?hi16 (by kernel_rfl) (by kernel_rfl) (by kernel_rfl) ?hQ16 ?hy16 (by assumption) ?hrest16
            case hi16 => (simp only [List.getElem?_toArray, List.getElem?_cons_zero]; try rfl)
            case hQ16 => exact fun _ _ _ h => h
            case hy16 =>
              refine Or.inl ⟨by rfl, ?_⟩
              (intro wq hSw; (try dsimp only at hSw); go_simp; try with_reducible rfl)
            (try simp only [Act.put, List.setIfInBounds_toArray, List.set_cons_zero, List.set_cons_succ])
            refine wpAnyH_take (i := 1) (oi := ?oi17) (v := ?v17) ?hi17 (by kernel_rfl) (by kernel_rfl) (by kernel_rfl) ?hQ17 ?hy17 (by assumption) ?hrest17
            case hi17 => (simp only [List.getElem?_toArray, List.getElem?_cons_succ, List.getElem?_cons_zero]; try rfl)
            case hQ17 => exact fun _ _ _ h => h
            case hy17 =>
              refine Or.inl ⟨by rfl, ?_⟩
              (intro wq hSw; (try dsimp only at hSw); go_simp; try with_reducible rfl)
            (try simp only [Act.put, List.setIfInBounds_toArray, List.set_cons_zero, List.set_cons_succ])
            refine wpAnyH_take (i := 2) (oi := ?oi18) (v := ?v18) ?hi18 (by kernel_rfl) (by kernel_rfl) (by kernel_rfl) ?hQ18 ?hy18 (by assumption) ?hrest18
            case hi18 => (simp only [List.getElem?_toArray, List.getElem?_cons_succ, List.getElem?_cons_zero]; try rfl)
            case hQ18 => exact fun _ _ _ h => h
            case hy18 =>
              refine Or.inl ⟨by rfl, ?_⟩
              (intro wq hSw; (try dsimp only at hSw); go_simp; try with_reducible rfl)
            (try simp only [Act.put, List.setIfInBounds_toArray, List.set_cons_zero, List.set_cons_succ])
            refine wpAnyH_take (i := 3) (oi := ?oi19) (v := ?v19) ?hi19 (by kernel_rfl) (by kernel_rfl) (by kernel_rfl) ?hQ19 ?hy19 (by assumption) ?hrest19
            case hi19 => (simp only [List.getElem?_toArray, List.getElem?_cons_succ, List.getElem?_cons_zero]; try rfl)
            case hQ19 => exact fun _ _ _ h => h
            case hy19 =>
              refine Or.inl ⟨by rfl, ?_⟩
              (intro wq hSw; (try dsimp only at hSw); go_simp; try with_reducible rfl)
            (try simp only [Act.put, List.setIfInBounds_toArray, List.set_cons_zero, List.set_cons_succ])
            refine wpAnyH_take (i := 5) (oi := ?oi20) (v := ?v20) ?hi20 (by kernel_rfl) (by kernel_rfl) (by kernel_rfl) ?hQ20 ?hy20 (by assumption) ?hrest20
            case hi20 => (simp only [List.getElem?_toArray, List.getElem?_cons_succ, List.getElem?_cons_zero]; try rfl)
            case hQ20 => exact fun _ _ _ h => h
            case hy20 =>
              refine Or.inl ⟨by rfl, ?_⟩
              (intro wq hSw; (try dsimp only at hSw); go_simp; try with_reducible rfl)
            (try simp only [Act.put, List.setIfInBounds_toArray, List.set_cons_zero, List.set_cons_succ])
            refine wpAnyH_take (i := 8) (oi := ?oi21) (v := ?v21) ?hi21 (by kernel_rfl) (by kernel_rfl) (by kernel_rfl) ?hQ21 ?hy21 (by assumption) ?hrest21
            case hi21 => (simp only [List.getElem?_toArray, List.getElem?_cons_succ, List.getElem?_cons_zero]; try rfl)
            case hQ21 => exact fun _ _ _ h => h
            case hy21 =>
              refine Or.inl ⟨by rfl, ?_⟩
              (intro wq hSw; (try dsimp only at hSw); go_simp; try with_reducible rfl)
            (try simp only [Act.put, List.setIfInBounds_toArray, List.set_cons_zero, List.set_cons_succ])
            refine wpAnyH_take (i := 9) (oi := ?oi22) (v := ?v22) ?hi22 (by kernel_rfl) (by kernel_rfl) (by kernel_rfl) ?hQ22 ?hy22 (by assumption) ?hrest22
            case hi22 => (simp only [List.getElem?_toArray, List.getElem?_cons_succ, List.getElem?_cons_zero]; try rfl)
            case hQ22 => exact fun _ _ _ h => h
            case hy22 =>
              refine Or.inl ⟨by rfl, ?_⟩
              (intro wq hSw; (try dsimp only at hSw); go_simp; try with_reducible rfl)
            (try simp only [Act.put, List.setIfInBounds_toArray, List.set_cons_zero, List.set_cons_succ])
            refine wpAnyH_take (i := 10) (oi := ?oi23) (v := ?v23) ?hi23 (by kernel_rfl) (by kernel_rfl) (by kernel_rfl) ?hQ23 ?hy23 (by assumption) ?hrest23
            case hi23 => (simp only [List.getElem?_toArray, List.getElem?_cons_succ, List.getElem?_cons_zero]; try rfl)
            case hQ23 => exact fun _ _ _ h => h
            case hy23 =>
              refine Or.inl ⟨by rfl, ?_⟩
              (intro wq hSw; (try dsimp only at hSw); go_simp; try with_reducible rfl)
            (try simp only [Act.put, List.setIfInBounds_toArray, List.set_cons_zero, List.set_cons_succ])
            refine wpAnyH_ready (rs := [4, 6]) (by kernel_rfl) (by simp) ?_
            refine AllReadyH.cons (o := ?oi24) ?hi24 (fun K hK => ?hstep24) ?hmore24
            case hi24 => (simp only [List.getElem?_toArray, List.getElem?_cons_succ, List.getElem?_cons_zero]; try rfl)
            case hstep24 =>
              (refine oper_app2 rfl (.tmp 61) (.tmp 64) 22 rfl wq.heap.size 47 Try.underlying22 infoP rfl (by decide) (.slice none 0 0) 0 [] rfl (World.ownsRow_nil _ _ _ _) (some ad) k c ((xs.take k).flatMap prEl.cells) rfl (by rw [prEl.flat_len, hlt1.out]; rfl) (hEt.out _ bcur).1 (prEl.flat_one _) (by omega) (by omega) bcur.size ?_; intro vt wt hint hgt hatt; have bcur := bcur.grown hgt bcur.size (fun k hk => by cases hk); (try have n0 := hgt.cell n0 (fun e => by cases e)); (try have n1 := hgt.cell n1 (fun e => by cases e)))
              refine hK.out _ _ ?_ (fun hHeld => ?_)
              · exact hHeld.grown hgt hHeld.size (fun k hk => by cases hk)
              clear hK K
              (try simp only [Act.put, List.setIfInBounds_toArray, List.set_cons_zero, List.set_cons_succ])
              refine wpAnyH_ready (rs := [6]) (by kernel_rfl) (by simp) ?_
              refine AllReadyH.cons (o := ?oi25) ?hi25 (fun K hK => ?hstep25) AllReadyH.nil
              case hi25 => (simp only [List.getElem?_toArray, List.getElem?_cons_succ, List.getElem?_cons_zero]; try rfl)
              go_simp
              ((first | refine newvar_Kd ?_ | refine newvar_K ?_); intro wx hbx nv nf nz; have n0 := nv 0 _ rfl; have n1 := nv 1 _ rfl; have bcur := below_step bcur hbx; (try have hint := own_below hint hbx); clear nv nf)
              refine hK.out _ _ ?_ (fun hHeld => ?_)
              · exact below_step hHeld hbx
              clear hK K
              (try simp only [Act.put, List.setIfInBounds_toArray, List.set_cons_zero, List.set_cons_succ])
              refine wpAnyH_ready (rs := [7]) (by kernel_rfl) (by simp) ?_
              refine AllReadyH.cons (o := ?oi26) ?hi26 (fun K hK => ?hstep26) AllReadyH.nil
              case hi26 => (simp only [List.getElem?_toArray, List.getElem?_cons_succ, List.getElem?_cons_zero]; try rfl)
              (refine oper_app2 rfl (.tmp 65) (.tmp 67) 22 rfl wq.heap.size 47 Try.underlying22 infoP rfl (by decide) vt (0 + k) ([] ++ (xs.take k).flatMap prEl.cells) rfl hint (some ⟨_, 0, none⟩) 1 1 [.slice Ka m.length kc, .slice U v.length uc] rfl rfl (rd2 n0 n1) (by intro u hu; simp at hu; rcases hu with rfl | rfl <;> rfl) (by omega) (by omega) bcur.size ?_; intro vu wu hinu hgu hatu; have bcur := bcur.grown hgu bcur.size (fun k hk => (own_lt hint hk).1))
              refine hK.out _ _ ?_ (fun hHeld => ?_)
              · exact hHeld.grown hgu hHeld.size (fun k hk => (own_lt hint hk).1)
              clear hK K
              (try simp only [Act.put, List.setIfInBounds_toArray, List.set_cons_zero, List.set_cons_succ])
              refine wpAnyH_ready (rs := [11]) (by kernel_rfl) (by simp) ?_
              refine AllReadyH.cons (o := ?oi27) ?hi27 (fun K hK => ?hstep27) AllReadyH.nil
              case hi27 => (simp only [List.getElem?_toArray, List.getElem?_cons_succ, List.getElem?_cons_zero]; try rfl)
              (refine oper_app2 rfl (.tmp 68) (.tmp 71) 22 rfl wq.heap.size 47 Try.underlying22 infoP rfl (by decide) vu (0 + k + 1) (([] ++ (xs.take k).flatMap prEl.cells) ++ [.slice Ka m.length kc, .slice U v.length uc]) rfl hinu A2 (xs.length - k) (c - k) ((xs.drop k).flatMap prEl.cells) rfl (by rw [prEl.flat_len, hld1.out]; rfl) (hEd.out _ bcur).1 (prEl.flat_one _) (by omega) (by omega) bcur.size ?_; intro vd wd hind hgd hatd; have bcur := bcur.grown hgd bcur.size (fun k hk => (own_lt hinu hk).1); have hown := own_three (w0 := wq) (xs := xs.take k) (p := ⟨Ka, kc, m, U, uc, v⟩) (ys := xs.drop k) hind (by rw [List.length_append, List.length_cons, hlt1.out, hld1.out]; omega) (by simp [prEl, List.flatMap_append, Pr.key, Pr.val]) bcur (fun a ha q hq => (HEL.out a ha q hq)); obtain ⟨ys, hys⟩ : ∃ ys : List Pr, ys = xs.take k ++ (⟨Ka, kc, m, U, uc, v⟩ : Pr) :: xs.drop k := ⟨_, rfl⟩; rw [← hys] at hown; have hmd : ys.map Pr.data = insP L m v := (by rw [hys]; exact HINS.out); have HELY := hid (show ∀ y ∈ ys, y ∈ xs ∨ y = (⟨Ka, kc, m, U, uc, v⟩ : Pr) from fun y hy => by rw [hys] at hy; exact (List.mem_append.1 hy).elim (fun h => .inl (List.mem_of_mem_take h)) (fun h => (List.mem_cons.1 h).elim .inr (fun h => .inl (List.mem_of_mem_drop h)))); clear hys; obtain ⟨C, q, hvd, hsd⟩ := own_st hown; subst hvd; rw [hmd] at hsd; have HNP := hid (newp_own (w := w) hown (by first | exact bq.size | exact b9.size)); clear hmd hown; have KS := hid (rsize_any (c := q) hsd.1 (by rw [hsd.2.2]; exact HSZ.out)); rw [hsd.2.2] at KS)
              refine hK.out _ _ ?_ (fun hHeld => ?_)
              · exact hHeld.grown hgd hHeld.size (fun k hk => (own_lt hinu hk).1)
              clear hK K
              (try simp only [Act.put, List.setIfInBounds_toArray, List.set_cons_zero, List.set_cons_succ])
              refine wpAnyH_take (i := 12) (oi := ?oi28) (v := ?v28) ?hi28 (by kernel_rfl) (by kernel_rfl) (by kernel_rfl) ?hQ28 ?hy28 (by assumption) ?hrest28
              case hi28 => (simp only [List.getElem?_toArray, List.getElem?_cons_succ, List.getElem?_cons_zero]; try rfl)
              case hQ28 => exact fun _ _ _ h => h
              case hy28 =>
                refine Or.inl ⟨by rfl, ?_⟩
                (intro wq hSw; (try dsimp only at hSw); go_simp; try with_reducible rfl)
              (try simp only [Act.put, List.setIfInBounds_toArray, List.set_cons_zero, List.set_cons_succ])
              refine wpAnyH_done (by kernel_rfl) ?_ _
              refine NoPanic.normal ?_
              (go_wp2_with fail; refine KS.out.mono ?_; rintro e wz ⟨rfl, hbz⟩; have bz := below_step (below_step bq bcur) hbz; rcases HQ.out with ⟨c1, c2⟩ | ⟨c1, c2⟩; (have C2 := hid c2; clear c2; go_wp2_with fail; go_ret2; rw [C2.out]; exact ⟨none, 0, [], rfl, ⟨Els.nil _ _ _, Nat.le_refl _, rfl⟩, newp_nil, bz⟩); (have C2 := hid c2; clear c2; go_wp2_with fail; go_ret2; rw [C2.out]; exact ⟨C, q, ys, rfl, hsd.below hbz, newp_of HNP.out HELY.out FKU.out hbz.size (by have := bcur.size; have := hbz.size; (try have := bq0.size); omega), bz⟩))
            refine AllReadyH.cons (o := ?oi29) ?hi29 (fun K hK => ?hstep29) ?hmore29
            case hi29 => (simp only [List.getElem?_toArray, List.getElem?_cons_succ, List.getElem?_cons_zero]; try rfl)
            case hstep29 =>
              go_simp
              ((first | refine newvar_Kd ?_ | refine newvar_K ?_); intro wx hbx nv nf nz; have n0 := nv 0 _ rfl; have n1 := nv 1 _ rfl; have bcur := below_step bcur hbx; (try have hint := own_below hint hbx); clear nv nf)
              refine hK.out _ _ ?_ (fun hHeld => ?_)
              · exact below_step hHeld hbx
              clear hK K
              (try simp only [Act.put, List.setIfInBounds_toArray, List.set_cons_zero, List.set_cons_succ])
              refine wpAnyH_ready (rs := [4]) (by kernel_rfl) (by simp) ?_
              refine AllReadyH.cons (o := ?oi30) ?hi30 (fun K hK => ?hstep30) AllReadyH.nil
              case hi30 => (simp only [List.getElem?_toArray, List.getElem?_cons_succ, List.getElem?_cons_zero]; try rfl)
              (refine oper_app2 rfl (.tmp 61) (.tmp 64) 22 rfl wq.heap.size 47 Try.underlying22 infoP rfl (by decide) (.slice none 0 0) 0 [] rfl (World.ownsRow_nil _ _ _ _) (some ad) k c ((xs.take k).flatMap prEl.cells) rfl (by rw [prEl.flat_len, hlt1.out]; rfl) (hEt.out _ bcur).1 (prEl.flat_one _) (by omega) (by omega) bcur.size ?_; intro vt wt hint hgt hatt; have bcur := bcur.grown hgt bcur.size (fun k hk => by cases hk); (try have n0 := hgt.cell n0 (fun e => by cases e)); (try have n1 := hgt.cell n1 (fun e => by cases e)))
              refine hK.out _ _ ?_ (fun hHeld => ?_)
              · exact hHeld.grown hgt hHeld.size (fun k hk => by cases hk)
              clear hK K
              (try simp only [Act.put, List.setIfInBounds_toArray, List.set_cons_zero, List.set_cons_succ])
              refine wpAnyH_ready (rs := [7]) (by kernel_rfl) (by simp) ?_
              refine AllReadyH.cons (o := ?oi31) ?hi31 (fun K hK => ?hstep31) AllReadyH.nil
              case hi31 => (simp only [List.getElem?_toArray, List.getElem?_cons_succ, List.getElem?_cons_zero]; try rfl)
              (refine oper_app2 rfl (.tmp 65) (.tmp 67) 22 rfl wq.heap.size 47 Try.underlying22 infoP rfl (by decide) vt (0 + k) ([] ++ (xs.take k).flatMap prEl.cells) rfl hint (some ⟨_, 0, none⟩) 1 1 [.slice Ka m.length kc, .slice U v.length uc] rfl rfl (rd2 n0 n1) (by intro u hu; simp at hu; rcases hu with rfl | rfl <;> rfl) (by omega) (by omega) bcur.size ?_; intro vu wu hinu hgu hatu; have bcur := bcur.grown hgu bcur.size (fun k hk => (own_lt hint hk).1))
              refine hK.out _ _ ?_ (fun hHeld => ?_)
              · exact hHeld.grown hgu hHeld.size (fun k hk => (own_lt hint hk).1)
              clear hK K
              (try simp only [Act.put, List.setIfInBounds_toArray, List.set_cons_zero, List.set_cons_succ])
              refine wpAnyH_ready (rs := [11]) (by kernel_rfl) (by simp) ?_
              refine AllReadyH.cons (o := ?oi32) ?hi32 (fun K hK => ?hstep32) AllReadyH.nil
              case hi32 => (simp only [List.getElem?_toArray, List.getElem?_cons_succ, List.getElem?_cons_zero]; try rfl)
              (refine oper_app2 rfl (.tmp 68) (.tmp 71) 22 rfl wq.heap.size 47 Try.underlying22 infoP rfl (by decide) vu (0 + k + 1) (([] ++ (xs.take k).flatMap prEl.cells) ++ [.slice Ka m.length kc, .slice U v.length uc]) rfl hinu A2 (xs.length - k) (c - k) ((xs.drop k).flatMap prEl.cells) rfl (by rw [prEl.flat_len, hld1.out]; rfl) (hEd.out _ bcur).1 (prEl.flat_one _) (by omega) (by omega) bcur.size ?_; intro vd wd hind hgd hatd; have bcur := bcur.grown hgd bcur.size (fun k hk => (own_lt hinu hk).1); have hown := own_three (w0 := wq) (xs := xs.take k) (p := ⟨Ka, kc, m, U, uc, v⟩) (ys := xs.drop k) hind (by rw [List.length_append, List.length_cons, hlt1.out, hld1.out]; omega) (by simp [prEl, List.flatMap_append, Pr.key, Pr.val]) bcur (fun a ha q hq => (HEL.out a ha q hq)); obtain ⟨ys, hys⟩ : ∃ ys : List Pr, ys = xs.take k ++ (⟨Ka, kc, m, U, uc, v⟩ : Pr) :: xs.drop k := ⟨_, rfl⟩; rw [← hys] at hown; have hmd : ys.map Pr.data = insP L m v := (by rw [hys]; exact HINS.out); have HELY := hid (show ∀ y ∈ ys, y ∈ xs ∨ y = (⟨Ka, kc, m, U, uc, v⟩ : Pr) from fun y hy => by rw [hys] at hy; exact (List.mem_append.1 hy).elim (fun h => .inl (List.mem_of_mem_take h)) (fun h => (List.mem_cons.1 h).elim .inr (fun h => .inl (List.mem_of_mem_drop h)))); clear hys; obtain ⟨C, q, hvd, hsd⟩ := own_st hown; subst hvd; rw [hmd] at hsd; have HNP := hid (newp_own (w := w) hown (by first | exact bq.size | exact b9.size)); clear hmd hown; have KS := hid (rsize_any (c := q) hsd.1 (by rw [hsd.2.2]; exact HSZ.out)); rw [hsd.2.2] at KS)
              refine hK.out _ _ ?_ (fun hHeld => ?_)
              · exact hHeld.grown hgd hHeld.size (fun k hk => (own_lt hinu hk).1)
              clear hK K
              (try simp only [Act.put, List.setIfInBounds_toArray, List.set_cons_zero, List.set_cons_succ])
              refine wpAnyH_take (i := 12) (oi := ?oi33) (v := ?v33) ?hi33 (by kernel_rfl) (by kernel_rfl) (by kernel_rfl) ?hQ33 ?hy33 (by assumption) ?hrest33
              case hi33 => (simp only [List.getElem?_toArray, List.getElem?_cons_succ, List.getElem?_cons_zero]; try rfl)
              case hQ33 => exact fun _ _ _ h => h
              case hy33 =>
                refine Or.inl ⟨by rfl, ?_⟩
                (intro wq hSw; (try dsimp only at hSw); go_simp; try with_reducible rfl)
              (try simp only [Act.put, List.setIfInBounds_toArray, List.set_cons_zero, List.set_cons_succ])
              refine wpAnyH_done (by kernel_rfl) ?_ _
              refine NoPanic.normal ?_
              (go_wp2_with fail; refine KS.out.mono ?_; rintro e wz ⟨rfl, hbz⟩; have bz := below_step (below_step bq bcur) hbz; rcases HQ.out with ⟨c1, c2⟩ | ⟨c1, c2⟩; (have C2 := hid c2; clear c2; go_wp2_with fail; go_ret2; rw [C2.out]; exact ⟨none, 0, [], rfl, ⟨Els.nil _ _ _, Nat.le_refl _, rfl⟩, newp_nil, bz⟩); (have C2 := hid c2; clear c2; go_wp2_with fail; go_ret2; rw [C2.out]; exact ⟨C, q, ys, rfl, hsd.below hbz, newp_of HNP.out HELY.out FKU.out hbz.size (by have := bcur.size; have := hbz.size; (try have := bq0.size); omega), bz⟩))
            exact AllReadyH.nil
          · rw [decide_eq_true (cmp_gt hc0 hxm)] at s1
            have HC := hid hc0
            subst hadA
            clear hc0 hxm
            refine wp_region_noPanic ?_
            refine wp_region_held_drew (S := (fun W => Below wr.heap.size wr W)) (by kernel_rfl) ?_ (fun hHeld => ?_)
            · exact (Below.refl _ _).drew
            refine wpAnyH_take (i := 0) (oi := ?oi34) (v := ?v34) ?hi34 (by kernel_rfl) (by kernel_rfl) (by kernel_rfl) ?hQ34 ?hy34 (by assumption) ?hrest34
            case hi34 => (simp only [List.getElem?_toArray, List.getElem?_cons_zero]; try rfl)
            case hQ34 => exact fun _ _ _ h => h
            case hy34 =>
              refine Or.inl ⟨by rfl, ?_⟩
              (intro wq hSw; (try dsimp only at hSw); go_simp; try with_reducible rfl)
            (try simp only [Act.put, List.setIfInBounds_toArray, List.set_cons_zero, List.set_cons_succ])
            refine wpAnyH_take (i := 1) (oi := ?oi35) (v := ?v35) ?hi35 (by kernel_rfl) (by kernel_rfl) (by kernel_rfl) ?hQ35 ?hy35 (by assumption) ?hrest35
            case hi35 => (simp only [List.getElem?_toArray, List.getElem?_cons_succ, List.getElem?_cons_zero]; try rfl)
            case hQ35 => exact fun _ _ _ h => h
            case hy35 =>
              refine Or.inl ⟨by rfl, ?_⟩
              (intro wq hSw; (try dsimp only at hSw); go_simp; try with_reducible rfl)
            (try simp only [Act.put, List.setIfInBounds_toArray, List.set_cons_zero, List.set_cons_succ])
            refine wpAnyH_take (i := 2) (oi := ?oi36) (v := ?v36) ?hi36 (by kernel_rfl) (by kernel_rfl) (by kernel_rfl) ?hQ36 ?hy36 (by assumption) ?hrest36
            case hi36 => (simp only [List.getElem?_toArray, List.getElem?_cons_succ, List.getElem?_cons_zero]; try rfl)
            case hQ36 => exact fun _ _ _ h => h
            case hy36 =>
              refine Or.inl ⟨by rfl, ?_⟩
              (intro wq hSw; (try dsimp only at hSw); go_simp; try with_reducible rfl)
            (try simp only [Act.put, List.setIfInBounds_toArray, List.set_cons_zero, List.set_cons_succ])
            refine wpAnyH_take (i := 3) (oi := ?oi37) (v := ?v37) ?hi37 (by kernel_rfl) (by kernel_rfl) (by kernel_rfl) ?hQ37 ?hy37 (by assumption) ?hrest37
            case hi37 => (simp only [List.getElem?_toArray, List.getElem?_cons_succ, List.getElem?_cons_zero]; try rfl)
            case hQ37 => exact fun _ _ _ h => h
            case hy37 =>
              refine Or.inl ⟨by rfl, ?_⟩
              (intro wq hSw; (try dsimp only at hSw); go_simp; try with_reducible rfl)
            (try simp only [Act.put, List.setIfInBounds_toArray, List.set_cons_zero, List.set_cons_succ])
            refine wpAnyH_take (i := 4) (oi := ?oi38) (v := ?v38) ?hi38 (by kernel_rfl) (by kernel_rfl) (by kernel_rfl) ?hQ38 ?hy38 (by assumption) ?hrest38
            case hi38 => (simp only [List.getElem?_toArray, List.getElem?_cons_succ, List.getElem?_cons_zero]; try rfl)
            case hQ38 => exact fun _ _ _ h => h
            case hy38 =>
              refine Or.inl ⟨by rfl, ?_⟩
              (intro wq hSw; (try dsimp only at hSw); go_simp; try with_reducible rfl)
            (try simp only [Act.put, List.setIfInBounds_toArray, List.set_cons_zero, List.set_cons_succ])
            refine wpAnyH_take (i := 5) (oi := ?oi39) (v := ?v39) ?hi39 (by kernel_rfl) (by kernel_rfl) (by kernel_rfl) ?hQ39 ?hy39 (by assumption) ?hrest39
            case hi39 => (simp only [List.getElem?_toArray, List.getElem?_cons_succ, List.getElem?_cons_zero]; try rfl)
            case hQ39 => exact fun _ _ _ h => h
            case hy39 =>
              refine Or.inl ⟨by rfl, ?_⟩
              (intro wq hSw; (try dsimp only at hSw); go_simp; try with_reducible rfl)
            (try simp only [Act.put, List.setIfInBounds_toArray, List.set_cons_zero, List.set_cons_succ])
            refine wpAnyH_take (i := 6) (oi := ?oi40) (v := ?v40) ?hi40 (by kernel_rfl) (by kernel_rfl) (by kernel_rfl) ?hQ40 ?hy40 (by assumption) ?hrest40
            case hi40 => (simp only [List.getElem?_toArray, List.getElem?_cons_succ, List.getElem?_cons_zero]; try rfl)
            case hQ40 => exact fun _ _ _ h => h
            case hy40 =>
              refine Or.inl ⟨by rfl, ?_⟩
              (intro wq hSw; (try dsimp only at hSw); go_simp; try with_reducible rfl)
            (try simp only [Act.put, List.setIfInBounds_toArray, List.set_cons_zero, List.set_cons_succ])
            refine wpAnyH_take (i := 7) (oi := ?oi41) (v := ?v41) ?hi41 (by kernel_rfl) (by kernel_rfl) (by kernel_rfl) ?hQ41 ?hy41 (by assumption) ?hrest41
            case hi41 => (simp only [List.getElem?_toArray, List.getElem?_cons_succ, List.getElem?_cons_zero]; try rfl)
            case hQ41 => exact fun _ _ _ h => h
            case hy41 =>
              refine Or.inl ⟨by rfl, ?_⟩
              (intro wq hSw; (try dsimp only at hSw); go_simp; try with_reducible rfl)
            (try simp only [Act.put, List.setIfInBounds_toArray, List.set_cons_zero, List.set_cons_succ])
            refine wpAnyH_take (i := 8) (oi := ?oi42) (v := ?v42) ?hi42 (by kernel_rfl) (by kernel_rfl) (by kernel_rfl) ?hQ42 ?hy42 (by assumption) ?hrest42
            case hi42 => (simp only [List.getElem?_toArray, List.getElem?_cons_succ, List.getElem?_cons_zero]; try rfl)
            case hQ42 => exact fun _ _ _ h => h
            case hy42 =>
              refine Or.inl ⟨by rfl, ?_⟩
              (intro wq hSw; (try dsimp only at hSw); go_simp; try with_reducible rfl)
            (try simp only [Act.put, List.setIfInBounds_toArray, List.set_cons_zero, List.set_cons_succ])
            refine wpAnyH_take (i := 9) (oi := ?oi43) (v := ?v43) ?hi43 (by kernel_rfl) (by kernel_rfl) (by kernel_rfl) ?hQ43 ?hy43 (by assumption) ?hrest43
            case hi43 => (simp only [List.getElem?_toArray, List.getElem?_cons_succ, List.getElem?_cons_zero]; try rfl)
            case hQ43 => exact fun _ _ _ h => h
            case hy43 =>
              refine Or.inl ⟨by rfl, ?_⟩
              (intro wq hSw; (try dsimp only at hSw); go_simp; try with_reducible rfl)
            (try simp only [Act.put, List.setIfInBounds_toArray, List.set_cons_zero, List.set_cons_succ])
            refine wpAnyH_take (i := 10) (oi := ?oi44) (v := ?v44) ?hi44 (by kernel_rfl) (by kernel_rfl) (by kernel_rfl) ?hQ44 ?hy44 (by assumption) ?hrest44
            case hi44 => (simp only [List.getElem?_toArray, List.getElem?_cons_succ, List.getElem?_cons_zero]; try rfl)
            case hQ44 => exact fun _ _ _ h => h
            case hy44 =>
              refine Or.inl ⟨by rfl, ?_⟩
              (intro wq hSw; (try dsimp only at hSw); go_simp; try with_reducible rfl)
            (try simp only [Act.put, List.setIfInBounds_toArray, List.set_cons_zero, List.set_cons_succ])
            refine wpAnyH_take (i := 11) (oi := ?oi45) (v := ?v45) ?hi45 (by kernel_rfl) (by kernel_rfl) (by kernel_rfl) ?hQ45 ?hy45 (by assumption) ?hrest45
            case hi45 => (simp only [List.getElem?_toArray, List.getElem?_cons_succ, List.getElem?_cons_zero]; try rfl)
            case hQ45 => exact fun _ _ _ h => h
            case hy45 =>
              refine Or.inl ⟨by rfl, ?_⟩
              (intro wq hSw; (try dsimp only at hSw); go_simp; try with_reducible rfl)
            (try simp only [Act.put, List.setIfInBounds_toArray, List.set_cons_zero, List.set_cons_succ])
            refine wpAnyH_take (i := 12) (oi := ?oi46) (v := ?v46) ?hi46 (by kernel_rfl) (by kernel_rfl) (by kernel_rfl) ?hQ46 ?hy46 (by assumption) ?hrest46
            case hi46 => (simp only [List.getElem?_toArray, List.getElem?_cons_succ, List.getElem?_cons_zero]; try rfl)
            case hQ46 => exact fun _ _ _ h => h
            case hy46 =>
              refine Or.inl ⟨by rfl, ?_⟩
              (intro wq hSw; (try dsimp only at hSw); go_simp; try with_reducible rfl)
            (try simp only [Act.put, List.setIfInBounds_toArray, List.set_cons_zero, List.set_cons_succ])
            refine wpAnyH_take (i := 13) (oi := ?oi47) (v := ?v47) ?hi47 (by kernel_rfl) (by kernel_rfl) (by kernel_rfl) ?hQ47 ?hy47 (by assumption) ?hrest47
            case hi47 => (simp only [List.getElem?_toArray, List.getElem?_cons_succ, List.getElem?_cons_zero]; try rfl)
            case hQ47 => exact fun _ _ _ h => h
            case hy47 =>
              refine Or.inl ⟨by rfl, ?_⟩
              (intro wq hSw; (try dsimp only at hSw); go_simp; try with_reducible rfl)
            (try simp only [Act.put, List.setIfInBounds_toArray, List.set_cons_zero, List.set_cons_succ])
            refine wpAnyH_take (i := 14) (oi := ?oi48) (v := ?v48) ?hi48 (by kernel_rfl) (by kernel_rfl) (by kernel_rfl) ?hQ48 ?hy48 (by assumption) ?hrest48
            case hi48 => (simp only [List.getElem?_toArray, List.getElem?_cons_succ, List.getElem?_cons_zero]; try rfl)
            case hQ48 => exact fun _ _ _ h => h
            case hy48 =>
              refine Or.inl ⟨by rfl, ?_⟩
              (intro wq hSw; (try dsimp only at hSw); go_simp; try with_reducible rfl)
            (try simp only [Act.put, List.setIfInBounds_toArray, List.set_cons_zero, List.set_cons_succ])
            refine wpAnyH_done (by kernel_rfl) ?_ _
            refine NoPanic.normal ?_
            go_wp2_with fail
            go_roundw
            case rel => exact ⟨k + 1, by omega, by go_num, hid (fun j hj hjk => by
              by_cases hjj : j = k
              · subst hjj; rw [HXK.out]; exact HC.out
              · exact HB.out j hj (by omega)), hbr.drew⟩
            case measure => simp [RowKit.intOf]; omega
        · have hkx : k = xs.length := by omega
          have i1 : ¬ (k : Int) < xs.length := by omega
          have HAT := hid (atP_none h.2.2 HH2.out hk HB.out (fun hh => absurd hh hlt))
          clear hkx
          go_upto_region 9 with fail
          refine wp_region_noPanic ?_
          refine wp_region_held_drew (S := (fun W => Below wr.heap.size wr W)) (by kernel_rfl) ?_ (fun hHeld => ?_)
          · exact (Below.refl _ _).drew
          refine wpAnyH_take (i := 0) (oi := ?oi49) (v := ?v49) ?hi49 (by kernel_rfl) (by kernel_rfl) (by kernel_rfl) ?hQ49 ?hy49 (by assumption) ?hrest49
          case hi49 => (simp only [List.getElem?_toArray, List.getElem?_cons_zero]; try rfl)
          case hQ49 => exact fun _ _ _ h => h
          case hy49 =>
            refine Or.inl ⟨by rfl, ?_⟩
            (intro wq hSw; (try dsimp only at hSw); go_simp; try with_reducible rfl)
          (try simp only [Act.put, List.setIfInBounds_toArray, List.set_cons_zero, List.set_cons_succ])
          refine wpAnyH_take (i := 1) (oi := ?oi50) (v := ?v50) ?hi50 (by kernel_rfl) (by kernel_rfl) (by kernel_rfl) ?hQ50 ?hy50 (by assumption) ?hrest50
          case hi50 => (simp only [List.getElem?_toArray, List.getElem?_cons_succ, List.getElem?_cons_zero]; try rfl)
          case hQ50 => exact fun _ _ _ h => h
          case hy50 =>
            refine Or.inl ⟨by rfl, ?_⟩
            (intro wq hSw; (try dsimp only at hSw); go_simp; try with_reducible rfl)
          (try simp only [Act.put, List.setIfInBounds_toArray, List.set_cons_zero, List.set_cons_succ])
          refine wpAnyH_take (i := 2) (oi := ?oi51) (v := ?v51) ?hi51 (by kernel_rfl) (by kernel_rfl) (by kernel_rfl) ?hQ51 ?hy51 (by assumption) ?hrest51
          case hi51 => (simp only [List.getElem?_toArray, List.getElem?_cons_succ, List.getElem?_cons_zero]; try rfl)
          case hQ51 => exact fun _ _ _ h => h
          case hy51 =>
            refine Or.inl ⟨by rfl, ?_⟩
            (intro wq hSw; (try dsimp only at hSw); go_simp; try with_reducible rfl)
          (try simp only [Act.put, List.setIfInBounds_toArray, List.set_cons_zero, List.set_cons_succ])
          refine wpAnyH_take (i := 3) (oi := ?oi52) (v := ?v52) ?hi52 (by kernel_rfl) (by kernel_rfl) (by kernel_rfl) ?hQ52 ?hy52 (by assumption) ?hrest52
          case hi52 => (simp only [List.getElem?_toArray, List.getElem?_cons_succ, List.getElem?_cons_zero]; try rfl)
          case hQ52 => exact fun _ _ _ h => h
          case hy52 =>
            refine Or.inl ⟨by rfl, ?_⟩
            (intro wq hSw; (try dsimp only at hSw); go_simp; try with_reducible rfl)
          (try simp only [Act.put, List.setIfInBounds_toArray, List.set_cons_zero, List.set_cons_succ])
          refine wpAnyH_take (i := 4) (oi := ?oi53) (v := ?v53) ?hi53 (by kernel_rfl) (by kernel_rfl) (by kernel_rfl) ?hQ53 ?hy53 (by assumption) ?hrest53
          case hi53 => (simp only [List.getElem?_toArray, List.getElem?_cons_succ, List.getElem?_cons_zero]; try rfl)
          case hQ53 => exact fun _ _ _ h => h
          case hy53 =>
            refine Or.inl ⟨by rfl, ?_⟩
            (intro wq hSw; (try dsimp only at hSw); go_simp; try with_reducible rfl)
          (try simp only [Act.put, List.setIfInBounds_toArray, List.set_cons_zero, List.set_cons_succ])
          refine wpAnyH_take (i := 5) (oi := ?oi54) (v := undef) ?hi54 (by kernel_rfl) (by kernel_rfl) (by kernel_rfl) ?hQ54 ?hy54 (by assumption) ?hrest54
          case hi54 => (simp only [List.getElem?_toArray, List.getElem?_cons_succ, List.getElem?_cons_zero]; try rfl)
          case hQ54 => exact fun _ _ _ h => h
          case hy54 => exact Or.inr ⟨by rfl, rfl⟩
          (try simp only [Act.put, List.setIfInBounds_toArray, List.set_cons_zero, List.set_cons_succ])
          refine wpAnyH_take (i := 6) (oi := ?oi55) (v := undef) ?hi55 (by kernel_rfl) (by kernel_rfl) (by kernel_rfl) ?hQ55 ?hy55 (by assumption) ?hrest55
          case hi55 => (simp only [List.getElem?_toArray, List.getElem?_cons_succ, List.getElem?_cons_zero]; try rfl)
          case hQ55 => exact fun _ _ _ h => h
          case hy55 => exact Or.inr ⟨by rfl, rfl⟩
          (try simp only [Act.put, List.setIfInBounds_toArray, List.set_cons_zero, List.set_cons_succ])
          refine wpAnyH_take (i := 7) (oi := ?oi56) (v := undef) ?hi56 (by kernel_rfl) (by kernel_rfl) (by kernel_rfl) ?hQ56 ?hy56 (by assumption) ?hrest56
          case hi56 => (simp only [List.getElem?_toArray, List.getElem?_cons_succ, List.getElem?_cons_zero]; try rfl)
          case hQ56 => exact fun _ _ _ h => h
          case hy56 => exact Or.inr ⟨by rfl, rfl⟩
          (try simp only [Act.put, List.setIfInBounds_toArray, List.set_cons_zero, List.set_cons_succ])
          refine wpAnyH_take (i := 8) (oi := ?oi57) (v := undef) ?hi57 (by kernel_rfl) (by kernel_rfl) (by kernel_rfl) ?hQ57 ?hy57 (by assumption) ?hrest57
          case hi57 => (simp only [List.getElem?_toArray, List.getElem?_cons_succ, List.getElem?_cons_zero]; try rfl)
          case hQ57 => exact fun _ _ _ h => h
          case hy57 => exact Or.inr ⟨by rfl, rfl⟩
          (try simp only [Act.put, List.setIfInBounds_toArray, List.set_cons_zero, List.set_cons_succ])
          refine wpAnyH_take (i := 9) (oi := ?oi58) (v := undef) ?hi58 (by kernel_rfl) (by kernel_rfl) (by kernel_rfl) ?hQ58 ?hy58 (by assumption) ?hrest58
          case hi58 => (simp only [List.getElem?_toArray, List.getElem?_cons_succ, List.getElem?_cons_zero]; try rfl)
          case hQ58 => exact fun _ _ _ h => h
          case hy58 => exact Or.inr ⟨by rfl, rfl⟩
          (try simp only [Act.put, List.setIfInBounds_toArray, List.set_cons_zero, List.set_cons_succ])
          refine wpAnyH_take (i := 10) (oi := ?oi59) (v := undef) ?hi59 (by kernel_rfl) (by kernel_rfl) (by kernel_rfl) ?hQ59 ?hy59 (by assumption) ?hrest59
          case hi59 => (simp only [List.getElem?_toArray, List.getElem?_cons_succ, List.getElem?_cons_zero]; try rfl)
          case hQ59 => exact fun _ _ _ h => h
          case hy59 => exact Or.inr ⟨by rfl, rfl⟩
          (try simp only [Act.put, List.setIfInBounds_toArray, List.set_cons_zero, List.set_cons_succ])
          refine wpAnyH_take (i := 11) (oi := ?oi60) (v := undef) ?hi60 (by kernel_rfl) (by kernel_rfl) (by kernel_rfl) ?hQ60 ?hy60 (by assumption) ?hrest60
          case hi60 => (simp only [List.getElem?_toArray, List.getElem?_cons_succ, List.getElem?_cons_zero]; try rfl)
          case hQ60 => exact fun _ _ _ h => h
          case hy60 => exact Or.inr ⟨by rfl, rfl⟩
          (try simp only [Act.put, List.setIfInBounds_toArray, List.set_cons_zero, List.set_cons_succ])
          refine wpAnyH_take (i := 12) (oi := ?oi61) (v := undef) ?hi61 (by kernel_rfl) (by kernel_rfl) (by kernel_rfl) ?hQ61 ?hy61 (by assumption) ?hrest61
          case hi61 => (simp only [List.getElem?_toArray, List.getElem?_cons_succ, List.getElem?_cons_zero]; try rfl)
          case hQ61 => exact fun _ _ _ h => h
          case hy61 => exact Or.inr ⟨by rfl, rfl⟩
          (try simp only [Act.put, List.setIfInBounds_toArray, List.set_cons_zero, List.set_cons_succ])
          refine wpAnyH_take (i := 13) (oi := ?oi62) (v := undef) ?hi62 (by kernel_rfl) (by kernel_rfl) (by kernel_rfl) ?hQ62 ?hy62 (by assumption) ?hrest62
          case hi62 => (simp only [List.getElem?_toArray, List.getElem?_cons_succ, List.getElem?_cons_zero]; try rfl)
          case hQ62 => exact fun _ _ _ h => h
          case hy62 => exact Or.inr ⟨by rfl, rfl⟩
          (try simp only [Act.put, List.setIfInBounds_toArray, List.set_cons_zero, List.set_cons_succ])
          refine wpAnyH_take (i := 14) (oi := ?oi63) (v := ?v63) ?hi63 (by kernel_rfl) (by kernel_rfl) (by kernel_rfl) ?hQ63 ?hy63 (by assumption) ?hrest63
          case hi63 => (simp only [List.getElem?_toArray, List.getElem?_cons_succ, List.getElem?_cons_zero]; try rfl)
          case hQ63 => exact fun _ _ _ h => h
          case hy63 =>
            refine Or.inl ⟨by rfl, ?_⟩
            (intro wq hSw; (try dsimp only at hSw); go_simp; try with_reducible rfl)
          (try simp only [Act.put, List.setIfInBounds_toArray, List.set_cons_zero, List.set_cons_succ])
          refine wpAnyH_done (by kernel_rfl) ?_ _
          refine NoPanic.normal ?_
          have HLE := hid (show sizeP (insP L m v) ≤ sizeP L + 8 + (m.length + v.length) by
            rw [insP, HAT.out]
            exact sizeP_ins L m v k k (by omega) (by have := HLEN.out; omega))
          have HQ := hid (show (2048 : Int) < sizeP (insP L m v) ∧ putR L m v = ([], 71) ∨ ¬ (2048 : Int) < sizeP (insP L m v) ∧ putR L m v = (insP L m v, 0) from by
            rw [HP.out]
            by_cases hq : 2048 < sizeP (insP L m v)
            · rw [if_pos hq]; exact .inl ⟨by omega, rfl⟩
            · rw [if_neg hq]; exact .inr ⟨by omega, rfl⟩)
          have HSZ := hid (show sizeP (insP L m v) ≤ 1000000000000000 from by
            have h1 := HLE.out
            omega)
          have sl1 := fun W => run_slice_to (P := Try.prog) Try.underlying22 infoP A xs.length c k .i64 (k : Int) rfl (by omega) W
          have sl2 := fun W => run_slice_from (P := Try.prog) Try.underlying22 infoP A xs.length c k .i64 (k : Int) (by omega) (by omega) W
          obtain ⟨A2, hA2⟩ : ∃ A2, cutA A c k 2 = A2 := ⟨_, rfl⟩
          rw [hA2] at sl2
          have bdr := (Below.refl wr.heap.size wr).drew
          obtain ⟨wq, hwq⟩ : ∃ wq, wr.drew = wq := ⟨_, rfl⟩
          rw [hwq] at bdr ⊢
          clear hwq
          have bq0 := below_step hbr bdr
          have bq := below_step b9 bq0
          have P0 := cell_on bq0 P0
          have P1 := cell_on bq0 P1
          have slk := slk.keep (fun p u hp => cell_on bq0 hp)
          have slv := slv.keep (fun p u hp => cell_on bq0 hp)
          have HINS := hid (show (xs.take k ++ (⟨Ka, kc, m, U, uc, v⟩ : Pr) :: xs.drop k).map Pr.data = insP L m v from by
            rw [insP, HAT.out, ← HD.out, List.map_append, List.map_cons, List.map_take, List.map_drop]; rfl)
          have HEL := hid (fun (a : Pr) (ha : a ∈ xs.take k ++ (⟨Ka, kc, m, U, uc, v⟩ : Pr) :: xs.drop k) q (hq : q ∈ prEl.cons a) => (show Sl wq q.1 q.2 from by
            rcases List.mem_append.1 ha with ha | ha
            · exact (HOLD.out a (List.mem_of_mem_take ha) q hq).keep (fun p u hp => cell_on bq hp)
            · rcases List.mem_cons.1 ha with rfl | ha
              · rcases List.mem_cons.1 hq with rfl | hq
                · exact slk
                · rw [List.mem_singleton.1 hq]; exact slv
              · exact (HOLD.out a (List.mem_of_mem_drop ha) q hq).keep (fun p u hp => cell_on bq hp)))
          have P0q := fun W (hW : Below wq.heap.size wq W) => cell_on hW P0
          have P1q := fun W (hW : Below wq.heap.size wq W) => cell_on hW P1
          have hEt := hid (fun W (hW : Below wq.heap.size wq W) => (h.below (below_step bq hW)).1.take k)
          have hEd := hid (fun W (hW : Below wq.heap.size wq W) => (h.below (below_step bq hW)).1.cut k hcap)
          rw [show prEl.sz = 2 from rfl, hA2] at hEd
          have hlt1 := hid (show (xs.take k).length = k by simp; omega)
          have hld1 := hid (show (xs.drop k).length = xs.length - k by simp)
          have bcur := (Below.refl wq.heap.size wq).drew
          go_upto_region 11 with fail
          refine wp_region_noPanic ?_
          refine wp_region_held_drew (S := (fun W => Below wq.heap.size wq W)) (by kernel_rfl) ?_ (fun hHeld => ?_)
          · exact (Below.refl _ _).drew
          refine wpAnyH_take (i := 0) (oi := ?oi64) (v := ?v64) ?hi64 (by kernel_rfl) (by kernel_rfl) (by kernel_rfl) ?hQ64 ?hy64 (by assumption) ?hrest64
          case hi64 => (simp only [List.getElem?_toArray, List.getElem?_cons_zero]; try rfl)
          case hQ64 => exact fun _ _ _ h => h
          case hy64 =>
            refine Or.inl ⟨by rfl, ?_⟩
            (intro wq hSw; (try dsimp only at hSw); go_simp; try with_reducible rfl)
          (try simp only [Act.put, List.setIfInBounds_toArray, List.set_cons_zero, List.set_cons_succ])
          refine wpAnyH_take (i := 1) (oi := ?oi65) (v := ?v65) ?hi65 (by kernel_rfl) (by kernel_rfl) (by kernel_rfl) ?hQ65 ?hy65 (by assumption) ?hrest65
          case hi65 => (simp only [List.getElem?_toArray, List.getElem?_cons_succ, List.getElem?_cons_zero]; try rfl)
          case hQ65 => exact fun _ _ _ h => h
          case hy65 =>
            refine Or.inl ⟨by rfl, ?_⟩
            (intro wq hSw; (try dsimp only at hSw); go_simp; try with_reducible rfl)
          (try simp only [Act.put, List.setIfInBounds_toArray, List.set_cons_zero, List.set_cons_succ])
          refine wpAnyH_take (i := 2) (oi := ?oi66) (v := ?v66) ?hi66 (by kernel_rfl) (by kernel_rfl) (by kernel_rfl) ?hQ66 ?hy66 (by assumption) ?hrest66
          case hi66 => (simp only [List.getElem?_toArray, List.getElem?_cons_succ, List.getElem?_cons_zero]; try rfl)
          case hQ66 => exact fun _ _ _ h => h
          case hy66 =>
            refine Or.inl ⟨by rfl, ?_⟩
            (intro wq hSw; (try dsimp only at hSw); go_simp; try with_reducible rfl)
          (try simp only [Act.put, List.setIfInBounds_toArray, List.set_cons_zero, List.set_cons_succ])
          refine wpAnyH_take (i := 3) (oi := ?oi67) (v := ?v67) ?hi67 (by kernel_rfl) (by kernel_rfl) (by kernel_rfl) ?hQ67 ?hy67 (by assumption) ?hrest67
          case hi67 => (simp only [List.getElem?_toArray, List.getElem?_cons_succ, List.getElem?_cons_zero]; try rfl)
          case hQ67 => exact fun _ _ _ h => h
          case hy67 =>
            refine Or.inl ⟨by rfl, ?_⟩
            (intro wq hSw; (try dsimp only at hSw); go_simp; try with_reducible rfl)
          (try simp only [Act.put, List.setIfInBounds_toArray, List.set_cons_zero, List.set_cons_succ])
          refine wpAnyH_take (i := 5) (oi := ?oi68) (v := ?v68) ?hi68 (by kernel_rfl) (by kernel_rfl) (by kernel_rfl) ?hQ68 ?hy68 (by assumption) ?hrest68
          case hi68 => (simp only [List.getElem?_toArray, List.getElem?_cons_succ, List.getElem?_cons_zero]; try rfl)
          case hQ68 => exact fun _ _ _ h => h
          case hy68 =>
            refine Or.inl ⟨by rfl, ?_⟩
            (intro wq hSw; (try dsimp only at hSw); go_simp; try with_reducible rfl)
          (try simp only [Act.put, List.setIfInBounds_toArray, List.set_cons_zero, List.set_cons_succ])
          refine wpAnyH_take (i := 8) (oi := ?oi69) (v := ?v69) ?hi69 (by kernel_rfl) (by kernel_rfl) (by kernel_rfl) ?hQ69 ?hy69 (by assumption) ?hrest69
          case hi69 => (simp only [List.getElem?_toArray, List.getElem?_cons_succ, List.getElem?_cons_zero]; try rfl)
          case hQ69 => exact fun _ _ _ h => h
          case hy69 =>
            refine Or.inl ⟨by rfl, ?_⟩
            (intro wq hSw; (try dsimp only at hSw); go_simp; try with_reducible rfl)
          (try simp only [Act.put, List.setIfInBounds_toArray, List.set_cons_zero, List.set_cons_succ])
          refine wpAnyH_take (i := 9) (oi := ?oi70) (v := ?v70) ?hi70 (by kernel_rfl) (by kernel_rfl) (by kernel_rfl) ?hQ70 ?hy70 (by assumption) ?hrest70
          case hi70 => (simp only [List.getElem?_toArray, List.getElem?_cons_succ, List.getElem?_cons_zero]; try rfl)
          case hQ70 => exact fun _ _ _ h => h
          case hy70 =>
            refine Or.inl ⟨by rfl, ?_⟩
            (intro wq hSw; (try dsimp only at hSw); go_simp; try with_reducible rfl)
          (try simp only [Act.put, List.setIfInBounds_toArray, List.set_cons_zero, List.set_cons_succ])
          refine wpAnyH_take (i := 10) (oi := ?oi71) (v := ?v71) ?hi71 (by kernel_rfl) (by kernel_rfl) (by kernel_rfl) ?hQ71 ?hy71 (by assumption) ?hrest71
          case hi71 => (simp only [List.getElem?_toArray, List.getElem?_cons_succ, List.getElem?_cons_zero]; try rfl)
          case hQ71 => exact fun _ _ _ h => h
          case hy71 =>
            refine Or.inl ⟨by rfl, ?_⟩
            (intro wq hSw; (try dsimp only at hSw); go_simp; try with_reducible rfl)
          (try simp only [Act.put, List.setIfInBounds_toArray, List.set_cons_zero, List.set_cons_succ])
          refine wpAnyH_ready (rs := [4, 6]) (by kernel_rfl) (by simp) ?_
          refine AllReadyH.cons (o := ?oi72) ?hi72 (fun K hK => ?hstep72) ?hmore72
          case hi72 => (simp only [List.getElem?_toArray, List.getElem?_cons_succ, List.getElem?_cons_zero]; try rfl)
          case hstep72 =>
            (refine oper_app2 rfl (.tmp 61) (.tmp 64) 22 rfl wq.heap.size 47 Try.underlying22 infoP rfl (by decide) (.slice none 0 0) 0 [] rfl (World.ownsRow_nil _ _ _ _) A k c ((xs.take k).flatMap prEl.cells) rfl (by rw [prEl.flat_len, hlt1.out]; rfl) (hEt.out _ bcur).1 (prEl.flat_one _) (by omega) (by omega) bcur.size ?_; intro vt wt hint hgt hatt; have bcur := bcur.grown hgt bcur.size (fun k hk => by cases hk); (try have n0 := hgt.cell n0 (fun e => by cases e)); (try have n1 := hgt.cell n1 (fun e => by cases e)))
            refine hK.out _ _ ?_ (fun hHeld => ?_)
            · exact hHeld.grown hgt hHeld.size (fun k hk => by cases hk)
            clear hK K
            (try simp only [Act.put, List.setIfInBounds_toArray, List.set_cons_zero, List.set_cons_succ])
            refine wpAnyH_ready (rs := [6]) (by kernel_rfl) (by simp) ?_
            refine AllReadyH.cons (o := ?oi73) ?hi73 (fun K hK => ?hstep73) AllReadyH.nil
            case hi73 => (simp only [List.getElem?_toArray, List.getElem?_cons_succ, List.getElem?_cons_zero]; try rfl)
            go_simp
            ((first | refine newvar_Kd ?_ | refine newvar_K ?_); intro wx hbx nv nf nz; have n0 := nv 0 _ rfl; have n1 := nv 1 _ rfl; have bcur := below_step bcur hbx; (try have hint := own_below hint hbx); clear nv nf)
            refine hK.out _ _ ?_ (fun hHeld => ?_)
            · exact below_step hHeld hbx
            clear hK K
            (try simp only [Act.put, List.setIfInBounds_toArray, List.set_cons_zero, List.set_cons_succ])
            refine wpAnyH_ready (rs := [7]) (by kernel_rfl) (by simp) ?_
            refine AllReadyH.cons (o := ?oi74) ?hi74 (fun K hK => ?hstep74) AllReadyH.nil
            case hi74 => (simp only [List.getElem?_toArray, List.getElem?_cons_succ, List.getElem?_cons_zero]; try rfl)
            (refine oper_app2 rfl (.tmp 65) (.tmp 67) 22 rfl wq.heap.size 47 Try.underlying22 infoP rfl (by decide) vt (0 + k) ([] ++ (xs.take k).flatMap prEl.cells) rfl hint (some ⟨_, 0, none⟩) 1 1 [.slice Ka m.length kc, .slice U v.length uc] rfl rfl (rd2 n0 n1) (by intro u hu; simp at hu; rcases hu with rfl | rfl <;> rfl) (by omega) (by omega) bcur.size ?_; intro vu wu hinu hgu hatu; have bcur := bcur.grown hgu bcur.size (fun k hk => (own_lt hint hk).1))
            refine hK.out _ _ ?_ (fun hHeld => ?_)
            · exact hHeld.grown hgu hHeld.size (fun k hk => (own_lt hint hk).1)
            clear hK K
            (try simp only [Act.put, List.setIfInBounds_toArray, List.set_cons_zero, List.set_cons_succ])
            refine wpAnyH_ready (rs := [11]) (by kernel_rfl) (by simp) ?_
            refine AllReadyH.cons (o := ?oi75) ?hi75 (fun K hK => ?hstep75) AllReadyH.nil
            case hi75 => (simp only [List.getElem?_toArray, List.getElem?_cons_succ, List.getElem?_cons_zero]; try rfl)
            (refine oper_app2 rfl (.tmp 68) (.tmp 71) 22 rfl wq.heap.size 47 Try.underlying22 infoP rfl (by decide) vu (0 + k + 1) (([] ++ (xs.take k).flatMap prEl.cells) ++ [.slice Ka m.length kc, .slice U v.length uc]) rfl hinu A2 (xs.length - k) (c - k) ((xs.drop k).flatMap prEl.cells) rfl (by rw [prEl.flat_len, hld1.out]; rfl) (hEd.out _ bcur).1 (prEl.flat_one _) (by omega) (by omega) bcur.size ?_; intro vd wd hind hgd hatd; have bcur := bcur.grown hgd bcur.size (fun k hk => (own_lt hinu hk).1); have hown := own_three (w0 := wq) (xs := xs.take k) (p := ⟨Ka, kc, m, U, uc, v⟩) (ys := xs.drop k) hind (by rw [List.length_append, List.length_cons, hlt1.out, hld1.out]; omega) (by simp [prEl, List.flatMap_append, Pr.key, Pr.val]) bcur (fun a ha q hq => (HEL.out a ha q hq)); obtain ⟨ys, hys⟩ : ∃ ys : List Pr, ys = xs.take k ++ (⟨Ka, kc, m, U, uc, v⟩ : Pr) :: xs.drop k := ⟨_, rfl⟩; rw [← hys] at hown; have hmd : ys.map Pr.data = insP L m v := (by rw [hys]; exact HINS.out); have HELY := hid (show ∀ y ∈ ys, y ∈ xs ∨ y = (⟨Ka, kc, m, U, uc, v⟩ : Pr) from fun y hy => by rw [hys] at hy; exact (List.mem_append.1 hy).elim (fun h => .inl (List.mem_of_mem_take h)) (fun h => (List.mem_cons.1 h).elim .inr (fun h => .inl (List.mem_of_mem_drop h)))); clear hys; obtain ⟨C, q, hvd, hsd⟩ := own_st hown; subst hvd; rw [hmd] at hsd; have HNP := hid (newp_own (w := w) hown (by first | exact bq.size | exact b9.size)); clear hmd hown; have KS := hid (rsize_any (c := q) hsd.1 (by rw [hsd.2.2]; exact HSZ.out)); rw [hsd.2.2] at KS)
            refine hK.out _ _ ?_ (fun hHeld => ?_)
            · exact hHeld.grown hgd hHeld.size (fun k hk => (own_lt hinu hk).1)
            clear hK K
            (try simp only [Act.put, List.setIfInBounds_toArray, List.set_cons_zero, List.set_cons_succ])
            refine wpAnyH_take (i := 12) (oi := ?oi76) (v := ?v76) ?hi76 (by kernel_rfl) (by kernel_rfl) (by kernel_rfl) ?hQ76 ?hy76 (by assumption) ?hrest76
            case hi76 => (simp only [List.getElem?_toArray, List.getElem?_cons_succ, List.getElem?_cons_zero]; try rfl)
            case hQ76 => exact fun _ _ _ h => h
            case hy76 =>
              refine Or.inl ⟨by rfl, ?_⟩
              (intro wq hSw; (try dsimp only at hSw); go_simp; try with_reducible rfl)
            (try simp only [Act.put, List.setIfInBounds_toArray, List.set_cons_zero, List.set_cons_succ])
            refine wpAnyH_done (by kernel_rfl) ?_ _
            refine NoPanic.normal ?_
            (go_wp2_with fail; refine KS.out.mono ?_; rintro e wz ⟨rfl, hbz⟩; have bz := below_step (below_step bq bcur) hbz; rcases HQ.out with ⟨c1, c2⟩ | ⟨c1, c2⟩; (have C2 := hid c2; clear c2; go_wp2_with fail; go_ret2; rw [C2.out]; exact ⟨none, 0, [], rfl, ⟨Els.nil _ _ _, Nat.le_refl _, rfl⟩, newp_nil, bz⟩); (have C2 := hid c2; clear c2; go_wp2_with fail; go_ret2; rw [C2.out]; exact ⟨C, q, ys, rfl, hsd.below hbz, newp_of HNP.out HELY.out FKU.out hbz.size (by have := bcur.size; have := hbz.size; (try have := bq0.size); omega), bz⟩))
          refine AllReadyH.cons (o := ?oi77) ?hi77 (fun K hK => ?hstep77) ?hmore77
          case hi77 => (simp only [List.getElem?_toArray, List.getElem?_cons_succ, List.getElem?_cons_zero]; try rfl)
          case hstep77 =>
            go_simp
            ((first | refine newvar_Kd ?_ | refine newvar_K ?_); intro wx hbx nv nf nz; have n0 := nv 0 _ rfl; have n1 := nv 1 _ rfl; have bcur := below_step bcur hbx; (try have hint := own_below hint hbx); clear nv nf)
            refine hK.out _ _ ?_ (fun hHeld => ?_)
            · exact below_step hHeld hbx
            clear hK K
            (try simp only [Act.put, List.setIfInBounds_toArray, List.set_cons_zero, List.set_cons_succ])
            refine wpAnyH_ready (rs := [4]) (by kernel_rfl) (by simp) ?_
            refine AllReadyH.cons (o := ?oi78) ?hi78 (fun K hK => ?hstep78) AllReadyH.nil
            case hi78 => (simp only [List.getElem?_toArray, List.getElem?_cons_succ, List.getElem?_cons_zero]; try rfl)
            (refine oper_app2 rfl (.tmp 61) (.tmp 64) 22 rfl wq.heap.size 47 Try.underlying22 infoP rfl (by decide) (.slice none 0 0) 0 [] rfl (World.ownsRow_nil _ _ _ _) A k c ((xs.take k).flatMap prEl.cells) rfl (by rw [prEl.flat_len, hlt1.out]; rfl) (hEt.out _ bcur).1 (prEl.flat_one _) (by omega) (by omega) bcur.size ?_; intro vt wt hint hgt hatt; have bcur := bcur.grown hgt bcur.size (fun k hk => by cases hk); (try have n0 := hgt.cell n0 (fun e => by cases e)); (try have n1 := hgt.cell n1 (fun e => by cases e)))
            refine hK.out _ _ ?_ (fun hHeld => ?_)
            · exact hHeld.grown hgt hHeld.size (fun k hk => by cases hk)
            clear hK K
            (try simp only [Act.put, List.setIfInBounds_toArray, List.set_cons_zero, List.set_cons_succ])
            refine wpAnyH_ready (rs := [7]) (by kernel_rfl) (by simp) ?_
            refine AllReadyH.cons (o := ?oi79) ?hi79 (fun K hK => ?hstep79) AllReadyH.nil
            case hi79 => (simp only [List.getElem?_toArray, List.getElem?_cons_succ, List.getElem?_cons_zero]; try rfl)
            (refine oper_app2 rfl (.tmp 65) (.tmp 67) 22 rfl wq.heap.size 47 Try.underlying22 infoP rfl (by decide) vt (0 + k) ([] ++ (xs.take k).flatMap prEl.cells) rfl hint (some ⟨_, 0, none⟩) 1 1 [.slice Ka m.length kc, .slice U v.length uc] rfl rfl (rd2 n0 n1) (by intro u hu; simp at hu; rcases hu with rfl | rfl <;> rfl) (by omega) (by omega) bcur.size ?_; intro vu wu hinu hgu hatu; have bcur := bcur.grown hgu bcur.size (fun k hk => (own_lt hint hk).1))
            refine hK.out _ _ ?_ (fun hHeld => ?_)
            · exact hHeld.grown hgu hHeld.size (fun k hk => (own_lt hint hk).1)
            clear hK K
            (try simp only [Act.put, List.setIfInBounds_toArray, List.set_cons_zero, List.set_cons_succ])
            refine wpAnyH_ready (rs := [11]) (by kernel_rfl) (by simp) ?_
            refine AllReadyH.cons (o := ?oi80) ?hi80 (fun K hK => ?hstep80) AllReadyH.nil
            case hi80 => (simp only [List.getElem?_toArray, List.getElem?_cons_succ, List.getElem?_cons_zero]; try rfl)
            (refine oper_app2 rfl (.tmp 68) (.tmp 71) 22 rfl wq.heap.size 47 Try.underlying22 infoP rfl (by decide) vu (0 + k + 1) (([] ++ (xs.take k).flatMap prEl.cells) ++ [.slice Ka m.length kc, .slice U v.length uc]) rfl hinu A2 (xs.length - k) (c - k) ((xs.drop k).flatMap prEl.cells) rfl (by rw [prEl.flat_len, hld1.out]; rfl) (hEd.out _ bcur).1 (prEl.flat_one _) (by omega) (by omega) bcur.size ?_; intro vd wd hind hgd hatd; have bcur := bcur.grown hgd bcur.size (fun k hk => (own_lt hinu hk).1); have hown := own_three (w0 := wq) (xs := xs.take k) (p := ⟨Ka, kc, m, U, uc, v⟩) (ys := xs.drop k) hind (by rw [List.length_append, List.length_cons, hlt1.out, hld1.out]; omega) (by simp [prEl, List.flatMap_append, Pr.key, Pr.val]) bcur (fun a ha q hq => (HEL.out a ha q hq)); obtain ⟨ys, hys⟩ : ∃ ys : List Pr, ys = xs.take k ++ (⟨Ka, kc, m, U, uc, v⟩ : Pr) :: xs.drop k := ⟨_, rfl⟩; rw [← hys] at hown; have hmd : ys.map Pr.data = insP L m v := (by rw [hys]; exact HINS.out); have HELY := hid (show ∀ y ∈ ys, y ∈ xs ∨ y = (⟨Ka, kc, m, U, uc, v⟩ : Pr) from fun y hy => by rw [hys] at hy; exact (List.mem_append.1 hy).elim (fun h => .inl (List.mem_of_mem_take h)) (fun h => (List.mem_cons.1 h).elim .inr (fun h => .inl (List.mem_of_mem_drop h)))); clear hys; obtain ⟨C, q, hvd, hsd⟩ := own_st hown; subst hvd; rw [hmd] at hsd; have HNP := hid (newp_own (w := w) hown (by first | exact bq.size | exact b9.size)); clear hmd hown; have KS := hid (rsize_any (c := q) hsd.1 (by rw [hsd.2.2]; exact HSZ.out)); rw [hsd.2.2] at KS)
            refine hK.out _ _ ?_ (fun hHeld => ?_)
            · exact hHeld.grown hgd hHeld.size (fun k hk => (own_lt hinu hk).1)
            clear hK K
            (try simp only [Act.put, List.setIfInBounds_toArray, List.set_cons_zero, List.set_cons_succ])
            refine wpAnyH_take (i := 12) (oi := ?oi81) (v := ?v81) ?hi81 (by kernel_rfl) (by kernel_rfl) (by kernel_rfl) ?hQ81 ?hy81 (by assumption) ?hrest81
            case hi81 => (simp only [List.getElem?_toArray, List.getElem?_cons_succ, List.getElem?_cons_zero]; try rfl)
            case hQ81 => exact fun _ _ _ h => h
            case hy81 =>
              refine Or.inl ⟨by rfl, ?_⟩
              (intro wq hSw; (try dsimp only at hSw); go_simp; try with_reducible rfl)
            (try simp only [Act.put, List.setIfInBounds_toArray, List.set_cons_zero, List.set_cons_succ])
            refine wpAnyH_done (by kernel_rfl) ?_ _
            refine NoPanic.normal ?_
            (go_wp2_with fail; refine KS.out.mono ?_; rintro e wz ⟨rfl, hbz⟩; have bz := below_step (below_step bq bcur) hbz; rcases HQ.out with ⟨c1, c2⟩ | ⟨c1, c2⟩; (have C2 := hid c2; clear c2; go_wp2_with fail; go_ret2; rw [C2.out]; exact ⟨none, 0, [], rfl, ⟨Els.nil _ _ _, Nat.le_refl _, rfl⟩, newp_nil, bz⟩); (have C2 := hid c2; clear c2; go_wp2_with fail; go_ret2; rw [C2.out]; exact ⟨C, q, ys, rfl, hsd.below hbz, newp_of HNP.out HELY.out FKU.out hbz.size (by have := bcur.size; have := hbz.size; (try have := bq0.size); omega), bz⟩))
          exact AllReadyH.nil
    · have hat : atP L m = (i, i + 1) := by rw [atP, h2]
      have HAT := hid hat
      have hlen := h.len
      have HLE := hid (show sizeP (insP L m v) ≤ sizeP L + 8 + (m.length + v.length) by
        rw [insP, hat]
        exact sizeP_ins L m v i (i + 1) (by omega) (by omega))
      have HQ := hid (show (2048 : Int) < sizeP (insP L m v) ∧ putR L m v = ([], 71) ∨ ¬ (2048 : Int) < sizeP (insP L m v) ∧ putR L m v = (insP L m v, 0) from by
        rw [HP.out]
        by_cases hq : 2048 < sizeP (insP L m v)
        · rw [if_pos hq]; exact .inl ⟨by omega, rfl⟩
        · rw [if_neg hq]; exact .inr ⟨by omega, rfl⟩)
      have HSZ := hid (show sizeP (insP L m v) ≤ 1000000000000000 from by
        have h1 := HLE.out
        omega)
      have HI := hid h1
      clear h2 hat hlen h1
      have e1 : IntKind.i64.wrap ((i : Int) + 1) = (i : Int) + 1 := wrap_of _ (by omega) (by omega)
      have sl1 := fun W => run_slice_to (P := Try.prog) Try.underlying22 infoP A xs.length c i .i64 (i : Int) rfl (by omega) W
      have sl2 := fun W => run_slice_from (P := Try.prog) Try.underlying22 infoP A xs.length c (i + 1) .i64 ((i : Int) + 1) (by omega) (by omega) W
      obtain ⟨A2, hA2⟩ : ∃ A2, cutA A c (i + 1) 2 = A2 := ⟨_, rfl⟩
      rw [hA2] at sl2
      rw [HI.out] at KF
      go_enter Try.func31, Try.ntmps31
      have ba := below_alloc w (.cells #[] 5)
      have ga := g.below ba
      go_wp2_with (first | (at_builtin; refine wpList_app rfl (.tmp 19) (.tmp 20) 30 rfl w.heap.size 5 Try.underlying30 infoB rfl (by decide) (.slice (some ⟨w.heap.size, 0, none⟩) 0 0) 0 [] rfl (madeB_own w 5) B m.length d (m.map byt) rfl (by simp) ga (byt_one m) (by omega) (by omega) (by simp) ?_; intro v5 w5 hin5 hg5 hat5; have b5 : Below w.heap.size w w5 := ba.grown hg5 (by simp) (by intro k hk; simp [Value.ownBlock] at hk; omega); rw [Nat.zero_add, List.nil_append] at hin5; obtain ⟨Ka, kc, hv5, _⟩ := own_shape hin5; subst hv5; have slk := own_sl hin5; have bb := below_alloc w5 (.cells #[] 5); have b6 := below_step b5 bb; have gb := gv.below b6) | (at_builtin; refine wpList_app rfl (.tmp 22) (.tmp 23) 30 rfl w5.heap.size 5 Try.underlying30 infoB rfl (by decide) (.slice (some ⟨w5.heap.size, 0, none⟩) 0 0) 0 [] rfl (madeB_own w5 5) V v.length f (v.map byt) rfl (by simp) gb (byt_one v) (by omega) (by omega) (by simp) ?_; intro v7 w7 hin7 hg7 hat7; have b57 : Below w5.heap.size w5 w7 := bb.grown hg7 (by simp) (by intro k hk; simp [Value.ownBlock] at hk; omega); rw [Nat.zero_add, List.nil_append] at hin7; obtain ⟨U, uc, hv7, _⟩ := own_shape hin7; subst hv7; have slv := own_sl hin7; have b7 := below_step b5 b57; have slk := slk.keep (fun p u hp => cell_on b57 hp)))
      have ha8 := below_alloc w7 (.cells #[.slice Ka m.length kc, .slice U v.length uc] 47)
      have P0 := box_cell w7 #[.slice Ka m.length kc, .slice U v.length uc] 47 0 _ rfl
      have P1 := box_cell w7 #[.slice Ka m.length kc, .slice U v.length uc] 47 1 _ rfl
      have b8 := below_step b7 ha8
      have slk := slk.keep (fun p u hp => cell_on ha8 hp)
      have slv := slv.keep (fun p u hp => cell_on ha8 hp)
      refine (KF.out _ b8).mono ?_
      rintro e w9 ⟨rfl, hb9⟩
      have P0 := cell_on hb9 P0
      have P1 := cell_on hb9 P1
      have b9 := below_step b8 hb9
      have slk := slk.keep (fun p u hp => cell_on hb9 hp)
      have slv := slv.keep (fun p u hp => cell_on hb9 hp)
      have pw7 : w7.heap.size < w9.heap.size := by have h1 := ha8.size; have h2 := hb9.size; rw [show (w7.alloc (.cells #[.slice Ka m.length kc, .slice U v.length uc] 47)).heap.size = w7.heap.size + 1 from size_run] at h2; omega
      have FKU := hid (show (∀ ad, Ka = some ad → w.heap.size ≤ ad.block ∧ ad.block < w9.heap.size) ∧ ∀ ad, U = some ad → w.heap.size ≤ ad.block ∧ ad.block < w9.heap.size from ⟨fun ad e => by subst e; have := own_lt hin5 (k := ad.block) rfl; have := b57.size; omega, fun ad e => by subst e; have := own_lt hin7 (k := ad.block) rfl; have := b5.size; omega⟩)
      have HINS := hid (show (xs.take i ++ (⟨Ka, kc, m, U, uc, v⟩ : Pr) :: xs.drop (i + 1)).map Pr.data = insP L m v from by
        rw [insP, HAT.out, ← HD.out, List.map_append, List.map_cons, List.map_take, List.map_drop]; rfl)
      have HEL := hid (fun (a : Pr) (ha : a ∈ xs.take i ++ (⟨Ka, kc, m, U, uc, v⟩ : Pr) :: xs.drop (i + 1)) q (hq : q ∈ prEl.cons a) => (show Sl w9 q.1 q.2 from by
        rcases List.mem_append.1 ha with ha | ha
        · exact (HOLD.out a (List.mem_of_mem_take ha) q hq).keep (fun p u hp => cell_on b9 hp)
        · rcases List.mem_cons.1 ha with rfl | ha
          · rcases List.mem_cons.1 hq with rfl | hq
            · exact slk
            · rw [List.mem_singleton.1 hq]; exact slv
          · exact (HOLD.out a (List.mem_of_mem_drop ha) q hq).keep (fun p u hp => cell_on b9 hp)))
      have P0q := fun W (hW : Below w9.heap.size w9 W) => cell_on hW P0
      have P1q := fun W (hW : Below w9.heap.size w9 W) => cell_on hW P1
      have hEt := hid (fun W (hW : Below w9.heap.size w9 W) => (h.below (below_step b9 hW)).1.take i)
      have hEd := hid (fun W (hW : Below w9.heap.size w9 W) => (h.below (below_step b9 hW)).1.cut (i + 1) hcap)
      rw [show prEl.sz = 2 from rfl, hA2] at hEd
      have hlt1 := hid (show (xs.take i).length = i by simp; omega)
      have hld1 := hid (show (xs.drop (i + 1)).length = xs.length - (i + 1) by simp)
      have bcur := (Below.refl w9.heap.size w9).drew
      go_upto_region 7 with fail
      refine wp_region_noPanic ?_
      refine wp_region_held_drew (S := (fun W => Below w9.heap.size w9 W)) (by kernel_rfl) ?_ (fun hHeld => ?_)
      · exact (Below.refl _ _).drew
      refine wpAnyH_take (i := 0) (oi := ?oi82) (v := ?v82) ?hi82 (by kernel_rfl) (by kernel_rfl) (by kernel_rfl) ?hQ82 ?hy82 (by assumption) ?hrest82
      case hi82 => (simp only [List.getElem?_toArray, List.getElem?_cons_zero]; try rfl)
      case hQ82 => exact fun _ _ _ h => h
      case hy82 =>
        refine Or.inl ⟨by rfl, ?_⟩
        (intro wq hSw; (try dsimp only at hSw); go_simp; try with_reducible rfl)
      (try simp only [Act.put, List.setIfInBounds_toArray, List.set_cons_zero, List.set_cons_succ])
      refine wpAnyH_take (i := 1) (oi := ?oi83) (v := ?v83) ?hi83 (by kernel_rfl) (by kernel_rfl) (by kernel_rfl) ?hQ83 ?hy83 (by assumption) ?hrest83
      case hi83 => (simp only [List.getElem?_toArray, List.getElem?_cons_succ, List.getElem?_cons_zero]; try rfl)
      case hQ83 => exact fun _ _ _ h => h
      case hy83 =>
        refine Or.inl ⟨by rfl, ?_⟩
        (intro wq hSw; (try dsimp only at hSw); go_simp; try with_reducible rfl)
      (try simp only [Act.put, List.setIfInBounds_toArray, List.set_cons_zero, List.set_cons_succ])
      refine wpAnyH_take (i := 2) (oi := ?oi84) (v := ?v84) ?hi84 (by kernel_rfl) (by kernel_rfl) (by kernel_rfl) ?hQ84 ?hy84 (by assumption) ?hrest84
      case hi84 => (simp only [List.getElem?_toArray, List.getElem?_cons_succ, List.getElem?_cons_zero]; try rfl)
      case hQ84 => exact fun _ _ _ h => h
      case hy84 =>
        refine Or.inl ⟨by rfl, ?_⟩
        (intro wq hSw; (try dsimp only at hSw); go_simp; try with_reducible rfl)
      (try simp only [Act.put, List.setIfInBounds_toArray, List.set_cons_zero, List.set_cons_succ])
      refine wpAnyH_take (i := 3) (oi := ?oi85) (v := ?v85) ?hi85 (by kernel_rfl) (by kernel_rfl) (by kernel_rfl) ?hQ85 ?hy85 (by assumption) ?hrest85
      case hi85 => (simp only [List.getElem?_toArray, List.getElem?_cons_succ, List.getElem?_cons_zero]; try rfl)
      case hQ85 => exact fun _ _ _ h => h
      case hy85 =>
        refine Or.inl ⟨by rfl, ?_⟩
        (intro wq hSw; (try dsimp only at hSw); go_simp; try with_reducible rfl)
      (try simp only [Act.put, List.setIfInBounds_toArray, List.set_cons_zero, List.set_cons_succ])
      refine wpAnyH_take (i := 5) (oi := ?oi86) (v := ?v86) ?hi86 (by kernel_rfl) (by kernel_rfl) (by kernel_rfl) ?hQ86 ?hy86 (by assumption) ?hrest86
      case hi86 => (simp only [List.getElem?_toArray, List.getElem?_cons_succ, List.getElem?_cons_zero]; try rfl)
      case hQ86 => exact fun _ _ _ h => h
      case hy86 =>
        refine Or.inl ⟨by rfl, ?_⟩
        (intro wq hSw; (try dsimp only at hSw); go_simp; try with_reducible rfl)
      (try simp only [Act.put, List.setIfInBounds_toArray, List.set_cons_zero, List.set_cons_succ])
      refine wpAnyH_take (i := 8) (oi := ?oi87) (v := ?v87) ?hi87 (by kernel_rfl) (by kernel_rfl) (by kernel_rfl) ?hQ87 ?hy87 (by assumption) ?hrest87
      case hi87 => (simp only [List.getElem?_toArray, List.getElem?_cons_succ, List.getElem?_cons_zero]; try rfl)
      case hQ87 => exact fun _ _ _ h => h
      case hy87 =>
        refine Or.inl ⟨by rfl, ?_⟩
        (intro wq hSw; (try dsimp only at hSw); go_simp; try with_reducible rfl)
      (try simp only [Act.put, List.setIfInBounds_toArray, List.set_cons_zero, List.set_cons_succ])
      refine wpAnyH_take (i := 9) (oi := ?oi88) (v := ?v88) ?hi88 (by kernel_rfl) (by kernel_rfl) (by kernel_rfl) ?hQ88 ?hy88 (by assumption) ?hrest88
      case hi88 => (simp only [List.getElem?_toArray, List.getElem?_cons_succ, List.getElem?_cons_zero]; try rfl)
      case hQ88 => exact fun _ _ _ h => h
      case hy88 =>
        refine Or.inl ⟨by rfl, ?_⟩
        (intro wq hSw; (try dsimp only at hSw); go_simp; try with_reducible rfl)
      (try simp only [Act.put, List.setIfInBounds_toArray, List.set_cons_zero, List.set_cons_succ])
      refine wpAnyH_take (i := 10) (oi := ?oi89) (v := ?v89) ?hi89 (by kernel_rfl) (by kernel_rfl) (by kernel_rfl) ?hQ89 ?hy89 (by assumption) ?hrest89
      case hi89 => (simp only [List.getElem?_toArray, List.getElem?_cons_succ, List.getElem?_cons_zero]; try rfl)
      case hQ89 => exact fun _ _ _ h => h
      case hy89 =>
        refine Or.inl ⟨by rfl, ?_⟩
        (intro wq hSw; (try dsimp only at hSw); go_simp; try with_reducible rfl)
      (try simp only [Act.put, List.setIfInBounds_toArray, List.set_cons_zero, List.set_cons_succ])
      refine wpAnyH_take (i := 11) (oi := ?oi90) (v := ?v90) ?hi90 (by kernel_rfl) (by kernel_rfl) (by kernel_rfl) ?hQ90 ?hy90 (by assumption) ?hrest90
      case hi90 => (simp only [List.getElem?_toArray, List.getElem?_cons_succ, List.getElem?_cons_zero]; try rfl)
      case hQ90 => exact fun _ _ _ h => h
      case hy90 =>
        refine Or.inl ⟨by rfl, ?_⟩
        (intro wq hSw; (try dsimp only at hSw); go_simp; try with_reducible rfl)
      (try simp only [Act.put, List.setIfInBounds_toArray, List.set_cons_zero, List.set_cons_succ])
      refine wpAnyH_ready (rs := [4, 6]) (by kernel_rfl) (by simp) ?_
      refine AllReadyH.cons (o := ?oi91) ?hi91 (fun K hK => ?hstep91) ?hmore91
      case hi91 => (simp only [List.getElem?_toArray, List.getElem?_cons_succ, List.getElem?_cons_zero]; try rfl)
      case hstep91 =>
        (refine oper_app2 rfl (.tmp 31) (.tmp 34) 22 rfl w9.heap.size 47 Try.underlying22 infoP rfl (by decide) (.slice none 0 0) 0 [] rfl (World.ownsRow_nil _ _ _ _) A i c ((xs.take i).flatMap prEl.cells) rfl (by rw [prEl.flat_len, hlt1.out]; rfl) (hEt.out _ bcur).1 (prEl.flat_one _) (by omega) (by omega) bcur.size ?_; intro vt wt hint hgt hatt; have bcur := bcur.grown hgt bcur.size (fun k hk => by cases hk); (try have n0 := hgt.cell n0 (fun e => by cases e)); (try have n1 := hgt.cell n1 (fun e => by cases e)))
        refine hK.out _ _ ?_ (fun hHeld => ?_)
        · exact hHeld.grown hgt hHeld.size (fun k hk => by cases hk)
        clear hK K
        (try simp only [Act.put, List.setIfInBounds_toArray, List.set_cons_zero, List.set_cons_succ])
        refine wpAnyH_ready (rs := [6]) (by kernel_rfl) (by simp) ?_
        refine AllReadyH.cons (o := ?oi92) ?hi92 (fun K hK => ?hstep92) AllReadyH.nil
        case hi92 => (simp only [List.getElem?_toArray, List.getElem?_cons_succ, List.getElem?_cons_zero]; try rfl)
        go_simp
        ((first | refine newvar_Kd ?_ | refine newvar_K ?_); intro wx hbx nv nf nz; have n0 := nv 0 _ rfl; have n1 := nv 1 _ rfl; have bcur := below_step bcur hbx; (try have hint := own_below hint hbx); clear nv nf)
        refine hK.out _ _ ?_ (fun hHeld => ?_)
        · exact below_step hHeld hbx
        clear hK K
        (try simp only [Act.put, List.setIfInBounds_toArray, List.set_cons_zero, List.set_cons_succ])
        refine wpAnyH_ready (rs := [7]) (by kernel_rfl) (by simp) ?_
        refine AllReadyH.cons (o := ?oi93) ?hi93 (fun K hK => ?hstep93) AllReadyH.nil
        case hi93 => (simp only [List.getElem?_toArray, List.getElem?_cons_succ, List.getElem?_cons_zero]; try rfl)
        (refine oper_app2 rfl (.tmp 35) (.tmp 37) 22 rfl w9.heap.size 47 Try.underlying22 infoP rfl (by decide) vt (0 + i) ([] ++ (xs.take i).flatMap prEl.cells) rfl hint (some ⟨_, 0, none⟩) 1 1 [.slice Ka m.length kc, .slice U v.length uc] rfl rfl (rd2 n0 n1) (by intro u hu; simp at hu; rcases hu with rfl | rfl <;> rfl) (by omega) (by omega) bcur.size ?_; intro vu wu hinu hgu hatu; have bcur := bcur.grown hgu bcur.size (fun k hk => (own_lt hint hk).1))
        refine hK.out _ _ ?_ (fun hHeld => ?_)
        · exact hHeld.grown hgu hHeld.size (fun k hk => (own_lt hint hk).1)
        clear hK K
        (try simp only [Act.put, List.setIfInBounds_toArray, List.set_cons_zero, List.set_cons_succ])
        refine wpAnyH_ready (rs := [12]) (by kernel_rfl) (by simp) ?_
        refine AllReadyH.cons (o := ?oi94) ?hi94 (fun K hK => ?hstep94) AllReadyH.nil
        case hi94 => (simp only [List.getElem?_toArray, List.getElem?_cons_succ, List.getElem?_cons_zero]; try rfl)
        (refine oper_app2 rfl (.tmp 38) (.tmp 42) 22 rfl w9.heap.size 47 Try.underlying22 infoP rfl (by decide) vu (0 + i + 1) (([] ++ (xs.take i).flatMap prEl.cells) ++ [.slice Ka m.length kc, .slice U v.length uc]) rfl hinu A2 (xs.length - (i + 1)) (c - (i + 1)) ((xs.drop (i + 1)).flatMap prEl.cells) rfl (by rw [prEl.flat_len, hld1.out]; rfl) (hEd.out _ bcur).1 (prEl.flat_one _) (by omega) (by omega) bcur.size ?_; intro vd wd hind hgd hatd; have bcur := bcur.grown hgd bcur.size (fun k hk => (own_lt hinu hk).1); have hown := own_three (w0 := w9) (xs := xs.take i) (p := ⟨Ka, kc, m, U, uc, v⟩) (ys := xs.drop (i + 1)) hind (by rw [List.length_append, List.length_cons, hlt1.out, hld1.out]; omega) (by simp [prEl, List.flatMap_append, Pr.key, Pr.val]) bcur (fun a ha q hq => (HEL.out a ha q hq)); obtain ⟨ys, hys⟩ : ∃ ys : List Pr, ys = xs.take i ++ (⟨Ka, kc, m, U, uc, v⟩ : Pr) :: xs.drop (i + 1) := ⟨_, rfl⟩; rw [← hys] at hown; have hmd : ys.map Pr.data = insP L m v := (by rw [hys]; exact HINS.out); have HELY := hid (show ∀ y ∈ ys, y ∈ xs ∨ y = (⟨Ka, kc, m, U, uc, v⟩ : Pr) from fun y hy => by rw [hys] at hy; exact (List.mem_append.1 hy).elim (fun h => .inl (List.mem_of_mem_take h)) (fun h => (List.mem_cons.1 h).elim .inr (fun h => .inl (List.mem_of_mem_drop h)))); clear hys; obtain ⟨C, q, hvd, hsd⟩ := own_st hown; subst hvd; rw [hmd] at hsd; have HNP := hid (newp_own (w := w) hown (by first | exact bq.size | exact b9.size)); clear hmd hown; have KS := hid (rsize_any (c := q) hsd.1 (by rw [hsd.2.2]; exact HSZ.out)); rw [hsd.2.2] at KS)
        refine hK.out _ _ ?_ (fun hHeld => ?_)
        · exact hHeld.grown hgd hHeld.size (fun k hk => (own_lt hinu hk).1)
        clear hK K
        (try simp only [Act.put, List.setIfInBounds_toArray, List.set_cons_zero, List.set_cons_succ])
        refine wpAnyH_take (i := 13) (oi := ?oi95) (v := ?v95) ?hi95 (by kernel_rfl) (by kernel_rfl) (by kernel_rfl) ?hQ95 ?hy95 (by assumption) ?hrest95
        case hi95 => (simp only [List.getElem?_toArray, List.getElem?_cons_succ, List.getElem?_cons_zero]; try rfl)
        case hQ95 => exact fun _ _ _ h => h
        case hy95 =>
          refine Or.inl ⟨by rfl, ?_⟩
          (intro wq hSw; (try dsimp only at hSw); go_simp; try with_reducible rfl)
        (try simp only [Act.put, List.setIfInBounds_toArray, List.set_cons_zero, List.set_cons_succ])
        refine wpAnyH_done (by kernel_rfl) ?_ _
        refine NoPanic.normal ?_
        (go_wp2_with fail; refine KS.out.mono ?_; rintro e wz ⟨rfl, hbz⟩; have bz := below_step (below_step b9 bcur) hbz; rcases HQ.out with ⟨c1, c2⟩ | ⟨c1, c2⟩; (have C2 := hid c2; clear c2; go_wp2_with fail; go_ret2; rw [C2.out]; exact ⟨none, 0, [], rfl, ⟨Els.nil _ _ _, Nat.le_refl _, rfl⟩, newp_nil, bz⟩); (have C2 := hid c2; clear c2; go_wp2_with fail; go_ret2; rw [C2.out]; exact ⟨C, q, ys, rfl, hsd.below hbz, newp_of HNP.out HELY.out FKU.out hbz.size (by have := bcur.size; have := hbz.size; (try have := bq0.size); omega), bz⟩))
      refine AllReadyH.cons (o := ?oi96) ?hi96 (fun K hK => ?hstep96) ?hmore96
      case hi96 => (simp only [List.getElem?_toArray, List.getElem?_cons_succ, List.getElem?_cons_zero]; try rfl)
      case hstep96 =>
        go_simp
        ((first | refine newvar_Kd ?_ | refine newvar_K ?_); intro wx hbx nv nf nz; have n0 := nv 0 _ rfl; have n1 := nv 1 _ rfl; have bcur := below_step bcur hbx; (try have hint := own_below hint hbx); clear nv nf)
        refine hK.out _ _ ?_ (fun hHeld => ?_)
        · exact below_step hHeld hbx
        clear hK K
        (try simp only [Act.put, List.setIfInBounds_toArray, List.set_cons_zero, List.set_cons_succ])
        refine wpAnyH_ready (rs := [4]) (by kernel_rfl) (by simp) ?_
        refine AllReadyH.cons (o := ?oi97) ?hi97 (fun K hK => ?hstep97) AllReadyH.nil
        case hi97 => (simp only [List.getElem?_toArray, List.getElem?_cons_succ, List.getElem?_cons_zero]; try rfl)
        (refine oper_app2 rfl (.tmp 31) (.tmp 34) 22 rfl w9.heap.size 47 Try.underlying22 infoP rfl (by decide) (.slice none 0 0) 0 [] rfl (World.ownsRow_nil _ _ _ _) A i c ((xs.take i).flatMap prEl.cells) rfl (by rw [prEl.flat_len, hlt1.out]; rfl) (hEt.out _ bcur).1 (prEl.flat_one _) (by omega) (by omega) bcur.size ?_; intro vt wt hint hgt hatt; have bcur := bcur.grown hgt bcur.size (fun k hk => by cases hk); (try have n0 := hgt.cell n0 (fun e => by cases e)); (try have n1 := hgt.cell n1 (fun e => by cases e)))
        refine hK.out _ _ ?_ (fun hHeld => ?_)
        · exact hHeld.grown hgt hHeld.size (fun k hk => by cases hk)
        clear hK K
        (try simp only [Act.put, List.setIfInBounds_toArray, List.set_cons_zero, List.set_cons_succ])
        refine wpAnyH_ready (rs := [7]) (by kernel_rfl) (by simp) ?_
        refine AllReadyH.cons (o := ?oi98) ?hi98 (fun K hK => ?hstep98) AllReadyH.nil
        case hi98 => (simp only [List.getElem?_toArray, List.getElem?_cons_succ, List.getElem?_cons_zero]; try rfl)
        (refine oper_app2 rfl (.tmp 35) (.tmp 37) 22 rfl w9.heap.size 47 Try.underlying22 infoP rfl (by decide) vt (0 + i) ([] ++ (xs.take i).flatMap prEl.cells) rfl hint (some ⟨_, 0, none⟩) 1 1 [.slice Ka m.length kc, .slice U v.length uc] rfl rfl (rd2 n0 n1) (by intro u hu; simp at hu; rcases hu with rfl | rfl <;> rfl) (by omega) (by omega) bcur.size ?_; intro vu wu hinu hgu hatu; have bcur := bcur.grown hgu bcur.size (fun k hk => (own_lt hint hk).1))
        refine hK.out _ _ ?_ (fun hHeld => ?_)
        · exact hHeld.grown hgu hHeld.size (fun k hk => (own_lt hint hk).1)
        clear hK K
        (try simp only [Act.put, List.setIfInBounds_toArray, List.set_cons_zero, List.set_cons_succ])
        refine wpAnyH_ready (rs := [12]) (by kernel_rfl) (by simp) ?_
        refine AllReadyH.cons (o := ?oi99) ?hi99 (fun K hK => ?hstep99) AllReadyH.nil
        case hi99 => (simp only [List.getElem?_toArray, List.getElem?_cons_succ, List.getElem?_cons_zero]; try rfl)
        (refine oper_app2 rfl (.tmp 38) (.tmp 42) 22 rfl w9.heap.size 47 Try.underlying22 infoP rfl (by decide) vu (0 + i + 1) (([] ++ (xs.take i).flatMap prEl.cells) ++ [.slice Ka m.length kc, .slice U v.length uc]) rfl hinu A2 (xs.length - (i + 1)) (c - (i + 1)) ((xs.drop (i + 1)).flatMap prEl.cells) rfl (by rw [prEl.flat_len, hld1.out]; rfl) (hEd.out _ bcur).1 (prEl.flat_one _) (by omega) (by omega) bcur.size ?_; intro vd wd hind hgd hatd; have bcur := bcur.grown hgd bcur.size (fun k hk => (own_lt hinu hk).1); have hown := own_three (w0 := w9) (xs := xs.take i) (p := ⟨Ka, kc, m, U, uc, v⟩) (ys := xs.drop (i + 1)) hind (by rw [List.length_append, List.length_cons, hlt1.out, hld1.out]; omega) (by simp [prEl, List.flatMap_append, Pr.key, Pr.val]) bcur (fun a ha q hq => (HEL.out a ha q hq)); obtain ⟨ys, hys⟩ : ∃ ys : List Pr, ys = xs.take i ++ (⟨Ka, kc, m, U, uc, v⟩ : Pr) :: xs.drop (i + 1) := ⟨_, rfl⟩; rw [← hys] at hown; have hmd : ys.map Pr.data = insP L m v := (by rw [hys]; exact HINS.out); have HELY := hid (show ∀ y ∈ ys, y ∈ xs ∨ y = (⟨Ka, kc, m, U, uc, v⟩ : Pr) from fun y hy => by rw [hys] at hy; exact (List.mem_append.1 hy).elim (fun h => .inl (List.mem_of_mem_take h)) (fun h => (List.mem_cons.1 h).elim .inr (fun h => .inl (List.mem_of_mem_drop h)))); clear hys; obtain ⟨C, q, hvd, hsd⟩ := own_st hown; subst hvd; rw [hmd] at hsd; have HNP := hid (newp_own (w := w) hown (by first | exact bq.size | exact b9.size)); clear hmd hown; have KS := hid (rsize_any (c := q) hsd.1 (by rw [hsd.2.2]; exact HSZ.out)); rw [hsd.2.2] at KS)
        refine hK.out _ _ ?_ (fun hHeld => ?_)
        · exact hHeld.grown hgd hHeld.size (fun k hk => (own_lt hinu hk).1)
        clear hK K
        (try simp only [Act.put, List.setIfInBounds_toArray, List.set_cons_zero, List.set_cons_succ])
        refine wpAnyH_take (i := 13) (oi := ?oi100) (v := ?v100) ?hi100 (by kernel_rfl) (by kernel_rfl) (by kernel_rfl) ?hQ100 ?hy100 (by assumption) ?hrest100
        case hi100 => (simp only [List.getElem?_toArray, List.getElem?_cons_succ, List.getElem?_cons_zero]; try rfl)
        case hQ100 => exact fun _ _ _ h => h
        case hy100 =>
          refine Or.inl ⟨by rfl, ?_⟩
          (intro wq hSw; (try dsimp only at hSw); go_simp; try with_reducible rfl)
        (try simp only [Act.put, List.setIfInBounds_toArray, List.set_cons_zero, List.set_cons_succ])
        refine wpAnyH_done (by kernel_rfl) ?_ _
        refine NoPanic.normal ?_
        (go_wp2_with fail; refine KS.out.mono ?_; rintro e wz ⟨rfl, hbz⟩; have bz := below_step (below_step b9 bcur) hbz; rcases HQ.out with ⟨c1, c2⟩ | ⟨c1, c2⟩; (have C2 := hid c2; clear c2; go_wp2_with fail; go_ret2; rw [C2.out]; exact ⟨none, 0, [], rfl, ⟨Els.nil _ _ _, Nat.le_refl _, rfl⟩, newp_nil, bz⟩); (have C2 := hid c2; clear c2; go_wp2_with fail; go_ret2; rw [C2.out]; exact ⟨C, q, ys, rfl, hsd.below hbz, newp_of HNP.out HELY.out FKU.out hbz.size (by have := bcur.size; have := hbz.size; (try have := bq0.size); omega), bz⟩))
      exact AllReadyH.nil
end Go.Proofs.Ytlekoeddcjjjdaa
