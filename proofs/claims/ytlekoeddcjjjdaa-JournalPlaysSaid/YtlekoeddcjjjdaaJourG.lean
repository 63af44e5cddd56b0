import Derived.Test.YtlekoeddcjjjdaaJourF
namespace Go.Proofs.Ytlekoeddcjjjdaa
open Go.RowKit Go.Cov Go.Lib
/-- a store told, over to a world where its blocks are as they were -/
theorem st_keep {w w' : World} {A : Option Addr} {c : Nat} {xs : List Pr} {L : PL} {P : Nat → Prop} (h : St w A c xs L) (hA : ∀ ad, A = some ad → P ad.block) (hx : ∀ x ∈ xs, (∀ ad, x.kA = some ad → P ad.block) ∧ ∀ ad, x.vA = some ad → P ad.block) (hk : ∀ k, P k → w'.heap[k]? = w.heap[k]?) : St w' A c xs L := by
  refine ⟨⟨rd_keepG h.1.1 (fun ad e => hk _ (hA ad e)), fun a ha p hp => ?_⟩, h.2⟩
  obtain ⟨B, d, he, h1, h2, h3⟩ := h.1.2 a ha p hp
  refine ⟨B, d, he, h1, h2, rd_keepG h3 fun ad hA => ?_⟩
  rcases List.mem_cons.1 hp with rfl | hp
  · have he2 : Value.slice a.kA a.k.length a.kc = .slice B a.k.length d := he
    injection he2 with e1
    exact hk _ ((hx a ha).1 ad (e1.trans hA))
  · rw [List.mem_singleton.1 hp] at he
    have he2 : Value.slice a.vA a.v.length a.vc = .slice B a.v.length d := he
    injection he2 with e1
    exact hk _ ((hx a ha).2 ad (e1.trans hA))
theorem jput_ext {hist : List PL} {cur : PL} {m v : List UInt8} (h : Okay cur) : (hist ++ [cur] <+: (jput hist cur m v).1 ++ [(jput hist cur m v).2]) ∧ Okay (jput hist cur m v).2 ∧ (jput hist cur m v).1.length ≤ hist.length + 1 := by
  rcases jput_cases (hist := hist) (m := m) (v := v) h with ⟨_, h2, h3⟩ | ⟨_, h2⟩
  · exact ⟨by rw [h2]; exact List.prefix_append _ _, h3, by rw [h2]; simp⟩
  · rw [h2]; exact ⟨List.prefix_refl _, h, by simp⟩
/-- what an undoing leads back to -/
theorem ext_back {hist hist2 : List PL} {cur cur2 : PL} (h : hist ++ [cur] <+: hist2 ++ [cur2]) : hist.length ≤ hist2.length ∧ hist2.take hist.length = hist ∧ hist2.getD hist.length cur2 = cur := by
  obtain ⟨t, ht⟩ := h
  rcases List.eq_nil_or_concat t with rfl | ⟨t', x, rfl⟩
  · rw [List.append_nil] at ht
    obtain ⟨h1, h2⟩ := List.append_inj' ht rfl
    injection h2 with h2
    subst h1 h2
    exact ⟨Nat.le_refl _, List.take_length, by rw [List.getD_eq_getElem?_getD, List.getElem?_eq_none (Nat.le_refl _)]; rfl⟩
  · rw [List.concat_eq_append, ← List.append_assoc] at ht
    obtain ⟨h1, _⟩ := List.append_inj' ht rfl
    rw [← h1]
    refine ⟨by simp, by simp, ?_⟩
    rw [List.getD_eq_getElem?_getD, List.append_assoc, List.getElem?_append_right (Nat.le_refl _), Nat.sub_self]
    rfl
set_option maxRecDepth 100000 in
set_option maxHeartbeats 6400000 in
theorem jdo_any {w w0 : World} {base jb vb : Nat} {hist : List PL} {cur : PL} {A : Option Addr} {d : Nat} {os : List Ow} (g : Els owEl w0 A os) (hb0 : Below w0.heap.size w0 w) (hw0 : w0.heap.size ≤ base) (h : Jn w base jb hist cur) (hk : Okay cur) (hn : hist.length + os.length ≤ 100000)
    (hv : w.cell? ⟨vb, 0, none⟩ = some (.pointer (some ⟨jb, 0, none⟩))) (ha : Apart w jb vb) :
    Calls Try.prog 25 #[.slice A os.length d, .pointer (some ⟨vb, 0, none⟩)] w fun e w' => (∃ v, e = .returned v) ∧ ∃ hist2 cur2, Jn w' base jb hist2 cur2 ∧ Okay cur2 ∧ (hist ++ [cur] <+: hist2 ++ [cur2]) ∧ hist2.length ≤ hist.length + os.length ∧ Below base w w' ∧ Keep w w' jb := by
  go_enter Try.func25, Try.ntmps25
  go_wp2_with fail
  go_loopw [3] (fun i W => ∃ (k : Nat) (hist2 : List PL) (cur2 : PL), k ≤ os.length ∧ i = .int .i64 k ∧ Jn W base jb hist2 cur2 ∧ Okay cur2 ∧ (hist ++ [cur] <+: hist2 ++ [cur2]) ∧ hist2.length ≤ hist.length + k ∧ Below base w W ∧ Keep w W jb) (fun i _ => os.length - (RowKit.intOf i).toNat)
  case atStart => exact ⟨0, hist, cur, by omega, rfl, h, hk, List.prefix_refl _, by omega, Below.refl _ _, Keep.refl _ _⟩
  case round =>
    obtain ⟨k, hist2, cur2, hkx, rfl, hj, hok, hpre, hln, hb, hkp⟩ := hrel
    have hbw : base ≤ wr.heap.size := jn_size hj
    have hbr := hb0.trans (hb.mono hw0)
    by_cases hlt : k < os.length
    · obtain ⟨ad, rfl, h1, h2, h3, h4, h5, h6⟩ := ow_at g k hlt
      generalize os[k] = x at h1 h2 h3 h4 h5 h6
      have h1r := cell_on hbr h1
      have har := (hkp vb ha).2
      have hvr : wr.cell? ⟨vb, 0, none⟩ = some (.pointer (some ⟨jb, 0, none⟩)) := (World.cell?_of_block (hkp vb ha).1).trans hv
      have i1 : (k : Int) < os.length := by omega
      have h0q := fun W (hW : W.cell? ⟨vb, 0, none⟩ = some (.pointer (some ⟨jb, 0, none⟩)) ∧ Below base wr W) => hW.1
      have h2q := fun W (hW : W.cell? ⟨vb, 0, none⟩ = some (.pointer (some ⟨jb, 0, none⟩)) ∧ Below base wr W) => cell_on (hbr.trans (hW.2.mono hw0)) h2
      have h3q := fun W (hW : W.cell? ⟨vb, 0, none⟩ = some (.pointer (some ⟨jb, 0, none⟩)) ∧ Below base wr W) => cell_on (hbr.trans (hW.2.mono hw0)) h3
      have hdr := (Below.refl wr.heap.size wr).drew
      have hjd := hj.below hdr
      have hkd := hj.old hdr
      have KP := hid (jput_k (d := x.kc) (f := x.vc) hjd (fun _ _ => trivial) hok (by omega) ((h5.below hbr).below hdr) ((h6.below hbr).below hdr))
      have KD := hid (jdel_k (d := x.kc) hjd (fun _ _ => trivial) hok (by omega) ((h5.below hbr).below hdr))
      have hko := okay_del (m := x.k) hok
      obtain ⟨e1, e2, e3⟩ := jput_ext (hist := hist2) (m := x.k) (v := x.v) hok
      obtain ⟨z, hz⟩ : ∃ z, bits .and .i64 x.what 1 = z := ⟨_, rfl⟩
      by_cases ez : z = 0
      · subst ez
        clear KD
        generalize (putR cur2 x.k x.v).2 = er at KP
        generalize jput hist2 cur2 x.k x.v = J at KP e1 e2 e3
        go_upto_region 4 with fail
        refine wp_region_noPanic ?_
        refine wp_region_held_drew (S := (fun W => W.cell? ⟨vb, 0, none⟩ = some (.pointer (some ⟨jb, 0, none⟩)) ∧ Below base wr W)) (by kernel_rfl) ?_ (fun hHeld => ?_)
        · exact ⟨hvr, (Below.refl _ _).drew⟩
        refine wpAnyH_take (i := 0) (oi := ?oi1) (v := ?v1) ?hi1 (by kernel_rfl) (by kernel_rfl) (by kernel_rfl) ?hQ1 ?hy1 (by assumption) ?hrest1
        case hi1 => (simp only [List.getElem?_toArray, List.getElem?_cons_zero]; try rfl)
        case hQ1 => exact fun _ _ _ h => h
        case hy1 =>
          refine Or.inl ⟨by rfl, ?_⟩
          (intro wq hSw; (try dsimp only at hSw); go_simp; try with_reducible rfl)
        (try simp only [Act.put, List.setIfInBounds_toArray, List.set_cons_zero, List.set_cons_succ])
        refine wpAnyH_take (i := 1) (oi := ?oi2) (v := ?v2) ?hi2 (by kernel_rfl) (by kernel_rfl) (by kernel_rfl) ?hQ2 ?hy2 (by assumption) ?hrest2
        case hi2 => (simp only [List.getElem?_toArray, List.getElem?_cons_succ, List.getElem?_cons_zero]; try rfl)
        case hQ2 => exact fun _ _ _ h => h
        case hy2 =>
          refine Or.inl ⟨by rfl, ?_⟩
          (intro wq hSw; (try dsimp only at hSw); go_simp; try with_reducible rfl)
        (try simp only [Act.put, List.setIfInBounds_toArray, List.set_cons_zero, List.set_cons_succ])
        refine wpAnyH_take (i := 2) (oi := ?oi3) (v := ?v3) ?hi3 (by kernel_rfl) (by kernel_rfl) (by kernel_rfl) ?hQ3 ?hy3 (by assumption) ?hrest3
        case hi3 => (simp only [List.getElem?_toArray, List.getElem?_cons_succ, List.getElem?_cons_zero]; try rfl)
        case hQ3 => exact fun _ _ _ h => h
        case hy3 =>
          refine Or.inl ⟨by rfl, ?_⟩
          (intro wq hSw; (try dsimp only at hSw); go_simp; try with_reducible rfl)
        (try simp only [Act.put, List.setIfInBounds_toArray, List.set_cons_zero, List.set_cons_succ])
        refine wpAnyH_take (i := 3) (oi := ?oi4) (v := ?v4) ?hi4 (by kernel_rfl) (by kernel_rfl) (by kernel_rfl) ?hQ4 ?hy4 (by assumption) ?hrest4
        case hi4 => (simp only [List.getElem?_toArray, List.getElem?_cons_succ, List.getElem?_cons_zero]; try rfl)
        case hQ4 => exact fun _ _ _ h => h
        case hy4 =>
          refine Or.inl ⟨by rfl, ?_⟩
          (intro wq hSw; (try dsimp only at hSw); go_simp; try with_reducible rfl)
        (try simp only [Act.put, List.setIfInBounds_toArray, List.set_cons_zero, List.set_cons_succ])
        refine wpAnyH_take (i := 4) (oi := ?oi5) (v := ?v5) ?hi5 (by kernel_rfl) (by kernel_rfl) (by kernel_rfl) ?hQ5 ?hy5 (by assumption) ?hrest5
        case hi5 => (simp only [List.getElem?_toArray, List.getElem?_cons_succ, List.getElem?_cons_zero]; try rfl)
        case hQ5 => exact fun _ _ _ h => h
        case hy5 =>
          refine Or.inl ⟨by rfl, ?_⟩
          (intro wq hSw; (try dsimp only at hSw); go_simp; try with_reducible rfl)
        (try simp only [Act.put, List.setIfInBounds_toArray, List.set_cons_zero, List.set_cons_succ])
        refine wpAnyH_take (i := 5) (oi := ?oi6) (v := ?v6) ?hi6 (by kernel_rfl) (by kernel_rfl) (by kernel_rfl) ?hQ6 ?hy6 (by assumption) ?hrest6
        case hi6 => (simp only [List.getElem?_toArray, List.getElem?_cons_succ, List.getElem?_cons_zero]; try rfl)
        case hQ6 => exact fun _ _ _ h => h
        case hy6 =>
          refine Or.inl ⟨by rfl, ?_⟩
          (intro wq hSw; (try dsimp only at hSw); go_simp; try with_reducible rfl)
        (try simp only [Act.put, List.setIfInBounds_toArray, List.set_cons_zero, List.set_cons_succ])
        refine wpAnyH_take (i := 6) (oi := ?oi7) (v := ?v7) ?hi7 (by kernel_rfl) (by kernel_rfl) (by kernel_rfl) ?hQ7 ?hy7 (by assumption) ?hrest7
        case hi7 => (simp only [List.getElem?_toArray, List.getElem?_cons_succ, List.getElem?_cons_zero]; try rfl)
        case hQ7 => exact fun _ _ _ h => h
        case hy7 =>
          refine Or.inl ⟨by rfl, ?_⟩
          (intro wq hSw; (try dsimp only at hSw); go_simp; try with_reducible rfl)
        (try simp only [Act.put, List.setIfInBounds_toArray, List.set_cons_zero, List.set_cons_succ])
        refine wpAnyH_take (i := 7) (oi := ?oi8) (v := ?v8) ?hi8 (by kernel_rfl) (by kernel_rfl) (by kernel_rfl) ?hQ8 ?hy8 (by assumption) ?hrest8
        case hi8 => (simp only [List.getElem?_toArray, List.getElem?_cons_succ, List.getElem?_cons_zero]; try rfl)
        case hQ8 => exact fun _ _ _ h => h
        case hy8 =>
          refine Or.inl ⟨by rfl, ?_⟩
          (intro wq hSw; (try dsimp only at hSw); go_simp; try with_reducible rfl)
        (try simp only [Act.put, List.setIfInBounds_toArray, List.set_cons_zero, List.set_cons_succ])
        refine wpAnyH_take (i := 8) (oi := ?oi9) (v := ?v9) ?hi9 (by kernel_rfl) (by kernel_rfl) (by kernel_rfl) ?hQ9 ?hy9 (by assumption) ?hrest9
        case hi9 => (simp only [List.getElem?_toArray, List.getElem?_cons_succ, List.getElem?_cons_zero]; try rfl)
        case hQ9 => exact fun _ _ _ h => h
        case hy9 =>
          refine Or.inl ⟨by rfl, ?_⟩
          (intro wq hSw; (try dsimp only at hSw); go_simp; try with_reducible rfl)
        (try simp only [Act.put, List.setIfInBounds_toArray, List.set_cons_zero, List.set_cons_succ])
        refine wpAnyH_take (i := 9) (oi := ?oi10) (v := ?v10) ?hi10 (by kernel_rfl) (by kernel_rfl) (by kernel_rfl) ?hQ10 ?hy10 (by assumption) ?hrest10
        case hi10 => (simp only [List.getElem?_toArray, List.getElem?_cons_succ, List.getElem?_cons_zero]; try rfl)
        case hQ10 => exact fun _ _ _ h => h
        case hy10 =>
          refine Or.inl ⟨by rfl, ?_⟩
          (intro wq hSw; (try dsimp only at hSw); go_simp; try with_reducible rfl)
        (try simp only [Act.put, List.setIfInBounds_toArray, List.set_cons_zero, List.set_cons_succ])
        refine wpAnyH_take (i := 10) (oi := ?oi11) (v := ?v11) ?hi11 (by kernel_rfl) (by kernel_rfl) (by kernel_rfl) ?hQ11 ?hy11 (by assumption) ?hrest11
        case hi11 => (simp only [List.getElem?_toArray, List.getElem?_cons_succ, List.getElem?_cons_zero]; try rfl)
        case hQ11 => exact fun _ _ _ h => h
        case hy11 =>
          refine Or.inl ⟨by rfl, ?_⟩
          (intro wq hSw; (try dsimp only at hSw); go_simp; try with_reducible rfl)
        (try simp only [Act.put, List.setIfInBounds_toArray, List.set_cons_zero, List.set_cons_succ])
        refine wpAnyH_ready (rs := [11]) (by kernel_rfl) (by simp) ?_
        refine AllReadyH.cons (o := ?oi12) ?hi12 (fun K hK => ?hstep12) AllReadyH.nil
        case hi12 => (simp only [List.getElem?_toArray, List.getElem?_cons_succ, List.getElem?_cons_zero]; try rfl)
        go_simp
        (refine KP.out.mono ?_; rintro e wx ⟨rfl, hjx, hbx, hkx2⟩; have hk2 := (hkp.trans hkd).trans hkx2)
        refine hK.out _ _ ?_ (fun hHeld => ?_)
        · exact ⟨(World.cell?_of_block (hk2 vb ha).1).trans hv, hHeld.2.trans hbx⟩
        clear hK K
        (try simp only [Act.put, List.setIfInBounds_toArray, List.set_cons_zero, List.set_cons_succ])
        refine wpAnyH_done (by kernel_rfl) ?_ _
        refine NoPanic.normal ?_
        go_wp2_with fail
        go_roundw
        case rel => exact ⟨k + 1, J.1, J.2, by omega, by go_num, hjx, e2, hpre.trans e1, by omega, hb.trans hHeld.2, hk2⟩
        case measure => simp [RowKit.intOf]; omega
      · have q1 : (z == 0) = false := by simpa using ez
        clear KP
        have HL := hid (show (hist2 ++ [cur2]).length ≤ hist.length + (k + 1) by simp; omega)
        obtain ⟨D, hD⟩ : ∃ D, delP cur2 x.k = D := ⟨_, rfl⟩
        rw [hD] at KD hko
        clear hD
        go_upto_region 5 with fail
        refine wp_region_noPanic ?_
        refine wp_region_held_drew (S := (fun W => W.cell? ⟨vb, 0, none⟩ = some (.pointer (some ⟨jb, 0, none⟩)) ∧ Below base wr W)) (by kernel_rfl) ?_ (fun hHeld => ?_)
        · exact ⟨hvr, (Below.refl _ _).drew⟩
        refine wpAnyH_take (i := 0) (oi := ?oi13) (v := ?v13) ?hi13 (by kernel_rfl) (by kernel_rfl) (by kernel_rfl) ?hQ13 ?hy13 (by assumption) ?hrest13
        case hi13 => (simp only [List.getElem?_toArray, List.getElem?_cons_zero]; try rfl)
        case hQ13 => exact fun _ _ _ h => h
        case hy13 =>
          refine Or.inl ⟨by rfl, ?_⟩
          (intro wq hSw; (try dsimp only at hSw); go_simp; try with_reducible rfl)
        (try simp only [Act.put, List.setIfInBounds_toArray, List.set_cons_zero, List.set_cons_succ])
        refine wpAnyH_take (i := 1) (oi := ?oi14) (v := ?v14) ?hi14 (by kernel_rfl) (by kernel_rfl) (by kernel_rfl) ?hQ14 ?hy14 (by assumption) ?hrest14
        case hi14 => (simp only [List.getElem?_toArray, List.getElem?_cons_succ, List.getElem?_cons_zero]; try rfl)
        case hQ14 => exact fun _ _ _ h => h
        case hy14 =>
          refine Or.inl ⟨by rfl, ?_⟩
          (intro wq hSw; (try dsimp only at hSw); go_simp; try with_reducible rfl)
        (try simp only [Act.put, List.setIfInBounds_toArray, List.set_cons_zero, List.set_cons_succ])
        refine wpAnyH_take (i := 2) (oi := ?oi15) (v := ?v15) ?hi15 (by kernel_rfl) (by kernel_rfl) (by kernel_rfl) ?hQ15 ?hy15 (by assumption) ?hrest15
        case hi15 => (simp only [List.getElem?_toArray, List.getElem?_cons_succ, List.getElem?_cons_zero]; try rfl)
        case hQ15 => exact fun _ _ _ h => h
        case hy15 =>
          refine Or.inl ⟨by rfl, ?_⟩
          (intro wq hSw; (try dsimp only at hSw); go_simp; try with_reducible rfl)
        (try simp only [Act.put, List.setIfInBounds_toArray, List.set_cons_zero, List.set_cons_succ])
        refine wpAnyH_take (i := 3) (oi := ?oi16) (v := ?v16) ?hi16 (by kernel_rfl) (by kernel_rfl) (by kernel_rfl) ?hQ16 ?hy16 (by assumption) ?hrest16
        case hi16 => (simp only [List.getElem?_toArray, List.getElem?_cons_succ, List.getElem?_cons_zero]; try rfl)
        case hQ16 => exact fun _ _ _ h => h
        case hy16 =>
          refine Or.inl ⟨by rfl, ?_⟩
          (intro wq hSw; (try dsimp only at hSw); go_simp; try with_reducible rfl)
        (try simp only [Act.put, List.setIfInBounds_toArray, List.set_cons_zero, List.set_cons_succ])
        refine wpAnyH_take (i := 4) (oi := ?oi17) (v := ?v17) ?hi17 (by kernel_rfl) (by kernel_rfl) (by kernel_rfl) ?hQ17 ?hy17 (by assumption) ?hrest17
        case hi17 => (simp only [List.getElem?_toArray, List.getElem?_cons_succ, List.getElem?_cons_zero]; try rfl)
        case hQ17 => exact fun _ _ _ h => h
        case hy17 =>
          refine Or.inl ⟨by rfl, ?_⟩
          (intro wq hSw; (try dsimp only at hSw); go_simp; try with_reducible rfl)
        (try simp only [Act.put, List.setIfInBounds_toArray, List.set_cons_zero, List.set_cons_succ])
        refine wpAnyH_take (i := 5) (oi := ?oi18) (v := ?v18) ?hi18 (by kernel_rfl) (by kernel_rfl) (by kernel_rfl) ?hQ18 ?hy18 (by assumption) ?hrest18
        case hi18 => (simp only [List.getElem?_toArray, List.getElem?_cons_succ, List.getElem?_cons_zero]; try rfl)
        case hQ18 => exact fun _ _ _ h => h
        case hy18 =>
          refine Or.inl ⟨by rfl, ?_⟩
          (intro wq hSw; (try dsimp only at hSw); go_simp; try with_reducible rfl)
        (try simp only [Act.put, List.setIfInBounds_toArray, List.set_cons_zero, List.set_cons_succ])
        refine wpAnyH_ready (rs := [6]) (by kernel_rfl) (by simp) ?_
        refine AllReadyH.cons (o := ?oi19) ?hi19 (fun K hK => ?hstep19) AllReadyH.nil
        case hi19 => (simp only [List.getElem?_toArray, List.getElem?_cons_succ, List.getElem?_cons_zero]; try rfl)
        go_simp
        (refine KD.out.mono ?_; rintro e wx ⟨⟨vd, rfl⟩, hjx, hbx, hkx2⟩; have hk2 := (hkp.trans hkd).trans hkx2)
        refine hK.out _ _ ?_ (fun hHeld => ?_)
        · exact ⟨(World.cell?_of_block (hk2 vb ha).1).trans hv, hHeld.2.trans hbx⟩
        clear hK K
        (try simp only [Act.put, List.setIfInBounds_toArray, List.set_cons_zero, List.set_cons_succ])
        refine wpAnyH_done (by kernel_rfl) ?_ _
        refine NoPanic.normal ?_
        go_wp2_with fail
        go_roundw
        case rel => exact ⟨k + 1, hist2 ++ [cur2], D, by omega, by go_num, hjx, hko, hpre.trans (List.prefix_append _ _), HL.out, hb.trans hHeld.2, hk2⟩
        case measure => simp [RowKit.intOf]; omega
    · go_wp2_with fail
      refine bodyPost_end (results_none rfl _ _ _) rfl ?_
      exact ⟨⟨_, rfl⟩, hist2, cur2, hj, hok, hpre, by omega, hb, hkp⟩
end Go.Proofs.Ytlekoeddcjjjdaa
