/-
  The walk of the law JournalOwn.
-/
import Derived.Test.YtlekoeddcjjjdaaJourI
import Derived.Test.YtlekoeddcjjjdaaPlain1
namespace Go.Proofs.Ytlekoeddcjjjdaa
open Go.RowKit Go.Cov Go.Lib
set_option maxRecDepth 100000 in
set_option maxHeartbeats 6400000 in
theorem own_law {A B D : Option Addr} {c d f : Nat} {xs : List Pr} {L : PL} {m v : List UInt8} {w : World} (h : St w A c xs L) (hfit : ∀ x ∈ xs, PrFit x) (hz : xs.length ≤ 2932031007317) (g : Rd w B (m.map byt)) (hm : m.length ≤ 140737488351232) (gv : Rd w D (v.map byt)) (hv : v.length ≤ 140737488351232) :
    Calls Try.prog 5 #[.slice A xs.length c, .slice B m.length d, .slice D v.length f] w fun e w' => e = .returned (.bool true) ∧ Below w.heap.size w w' := by
  go_enter Try.func5, Try.ntmps5
  go_wp2_with fail
  refine (jhead_any w).mono ?_
  rintro e w1 ⟨rfl, hb1⟩
  have h1w := h.below hb1
  have HD := hid h1w.2.2
  go_wp2_with fail
  go_loopw [8, 9] (fun u i W => ∃ (k : Nat) (outs : List Pr), k ≤ xs.length ∧ i = .int .i64 k ∧ OwnEls prEl W w1.heap.size 47 u outs ∧ (outs.map Pr.data = (xs.map Pr.data).take k ∧ ∀ y ∈ outs, PrNew w1.heap.size W.heap.size y ∧ Wrt W y.vA y.v.length) ∧ Below w1.heap.size w1 W) (fun _ i _ => xs.length - (RowKit.intOf i).toNat)
  case atStart => exact ⟨0, [], by omega, rfl, OwnEls.nil _ _ _ _, ⟨rfl, fun y hy => by cases hy⟩, Below.refl _ _⟩
  case round =>
    obtain ⟨k, outs, hkx, rfl, hown, ⟨hout, hpn⟩, hb⟩ := hrel
    by_cases hlt : k < xs.length
    · obtain ⟨ad, rfl, p1, p2, _, _⟩ := pr_at h1w.1 k hlt
      obtain ⟨ad', he', g1, g2, g3, g4⟩ := pr_at (h1w.below hb).1 k hlt
      cases he'
      have ladd := cell_lt p1
      clear p1 p2
      have i1 : (k : Int) < xs.length := by omega
      have hol : outs.length = k := by have := congrArg List.length hout; rw [List.length_map, List.length_take, List.length_map] at this; omega
      have hst : (xs.map Pr.data).take (k + 1) = outs.map Pr.data ++ [xs[k].data] := by
        rw [List.take_add_one, List.getElem?_map, List.getElem?_eq_getElem hlt, hout]; rfl
      have hxf := hfit xs[k] (List.getElem_mem hlt)
      have HST := hid hst
      have HOL := hid hol
      have HPN := hid hpn
      clear hst hol hout hpn
      generalize xs[k] = x at g1 g2 g3 g4 HST hxf
      have hx1 := hxf.1
      have hx2 := hxf.2
      clear hxf
      unfold Pr.key at g1
      unfold Pr.val at g2
      have hws := hb.size
      have hdr : wr.drew.heap.size = wr.heap.size := rfl
      have bcur := (Below.refl wr.heap.size wr).drew
      generalize hbk : (ad.add (k * 2)).block = abk at *
      have VQ := fun (W : World) (hW : W.cell? (ad.add (k * 2)) = some (.slice x.kA x.k.length x.kc) ∧ W.cell? ⟨abk, (ad.add (k * 2)).off + 1, none⟩ = some (.slice x.vA x.v.length x.vc)) => hW.1
      have VR := fun (W : World) (hW : W.cell? (ad.add (k * 2)) = some (.slice x.kA x.k.length x.kc) ∧ W.cell? ⟨abk, (ad.add (k * 2)).off + 1, none⟩ = some (.slice x.vA x.v.length x.vc)) => hW.2
      go_upto_region 6 with fail
      refine wp_region_noPanic ?_
      refine wp_region_held_drew (S := (fun W => W.cell? (ad.add (k * 2)) = some (.slice x.kA x.k.length x.kc) ∧ W.cell? ⟨abk, (ad.add (k * 2)).off + 1, none⟩ = some (.slice x.vA x.v.length x.vc))) (by kernel_rfl) ?_ (fun hHeld => ?_)
      · exact ⟨g1, g2⟩
      refine wpAnyH_take (i := 0) (oi := ?oi1) (v := ?v1) ?hi1 (by kernel_rfl) (by kernel_rfl) (by kernel_rfl) ?hQ1 ?hy1 (by assumption) ?hrest1
      case hi1 => (simp only [List.getElem?_toArray, List.getElem?_cons_zero]; try rfl)
      case hQ1 => exact fun _ _ _ h => h
      case hy1 =>
        refine Or.inl ⟨by rfl, ?_⟩
        (intro wq hSw; (try dsimp only at hSw); go_simp; try with_reducible rfl)
      (try simp only [Act.put, List.setIfInBounds_toArray, List.set_cons_zero, List.set_cons_succ])
      refine wpAnyH_take (i := 2) (oi := ?oi2) (v := ?v2) ?hi2 (by kernel_rfl) (by kernel_rfl) (by kernel_rfl) ?hQ2 ?hy2 (by assumption) ?hrest2
      case hi2 => (simp only [List.getElem?_toArray, List.getElem?_cons_succ, List.getElem?_cons_zero]; try rfl)
      case hQ2 => exact fun _ _ _ h => h
      case hy2 =>
        refine Or.inl ⟨by rfl, ?_⟩
        (intro wq hSw; (try dsimp only at hSw); go_simp; try with_reducible rfl)
      (try simp only [Act.put, List.setIfInBounds_toArray, List.set_cons_zero, List.set_cons_succ])
      refine wpAnyH_take (i := 3) (oi := ?oi3) (v := ?v3) ?hi3 (by kernel_rfl) (by kernel_rfl) (by kernel_rfl) ?hQ3 ?hy3 (by assumption) ?hrest3
      case hi3 => (simp only [List.getElem?_toArray, List.getElem?_cons_succ, List.getElem?_cons_zero]; try rfl)
      case hQ3 => exact fun _ _ _ h => h
      case hy3 =>
        refine Or.inl ⟨by rfl, ?_⟩
        (intro wq hSw; (try dsimp only at hSw); go_simp; try with_reducible rfl)
      (try simp only [Act.put, List.setIfInBounds_toArray, List.set_cons_zero, List.set_cons_succ])
      refine wpAnyH_take (i := 4) (oi := ?oi4) (v := ?v4) ?hi4 (by kernel_rfl) (by kernel_rfl) (by kernel_rfl) ?hQ4 ?hy4 (by assumption) ?hrest4
      case hi4 => (simp only [List.getElem?_toArray, List.getElem?_cons_succ, List.getElem?_cons_zero]; try rfl)
      case hQ4 => exact fun _ _ _ h => h
      case hy4 =>
        refine Or.inl ⟨by rfl, ?_⟩
        (intro wq hSw; (try dsimp only at hSw); go_simp; try with_reducible rfl)
      (try simp only [Act.put, List.setIfInBounds_toArray, List.set_cons_zero, List.set_cons_succ])
      refine wpAnyH_take (i := 5) (oi := ?oi5) (v := ?v5) ?hi5 (by kernel_rfl) (by kernel_rfl) (by kernel_rfl) ?hQ5 ?hy5 (by assumption) ?hrest5
      case hi5 => (simp only [List.getElem?_toArray, List.getElem?_cons_succ, List.getElem?_cons_zero]; try rfl)
      case hQ5 => exact fun _ _ _ h => h
      case hy5 =>
        refine Or.inl ⟨by rfl, ?_⟩
        (intro wq hSw; (try dsimp only at hSw); go_simp; try with_reducible rfl)
      (try simp only [Act.put, List.setIfInBounds_toArray, List.set_cons_zero, List.set_cons_succ])
      refine wpAnyH_take (i := 6) (oi := ?oi6) (v := ?v6) ?hi6 (by kernel_rfl) (by kernel_rfl) (by kernel_rfl) ?hQ6 ?hy6 (by assumption) ?hrest6
      case hi6 => (simp only [List.getElem?_toArray, List.getElem?_cons_succ, List.getElem?_cons_zero]; try rfl)
      case hQ6 => exact fun _ _ _ h => h
      case hy6 =>
        refine Or.inl ⟨by rfl, ?_⟩
        (intro wq hSw; (try dsimp only at hSw); go_simp; try with_reducible rfl)
      (try simp only [Act.put, List.setIfInBounds_toArray, List.set_cons_zero, List.set_cons_succ])
      refine wpAnyH_take (i := 9) (oi := ?oi7) (v := ?v7) ?hi7 (by kernel_rfl) (by kernel_rfl) (by kernel_rfl) ?hQ7 ?hy7 (by assumption) ?hrest7
      case hi7 => (simp only [List.getElem?_toArray, List.getElem?_cons_succ, List.getElem?_cons_zero]; try rfl)
      case hQ7 => exact fun _ _ _ h => h
      case hy7 =>
        refine Or.inl ⟨by rfl, ?_⟩
        (intro wq hSw; (try dsimp only at hSw); go_simp; try with_reducible rfl)
      (try simp only [Act.put, List.setIfInBounds_toArray, List.set_cons_zero, List.set_cons_succ])
      refine wpAnyH_take (i := 10) (oi := ?oi8) (v := ?v8) ?hi8 (by kernel_rfl) (by kernel_rfl) (by kernel_rfl) ?hQ8 ?hy8 (by assumption) ?hrest8
      case hi8 => (simp only [List.getElem?_toArray, List.getElem?_cons_succ, List.getElem?_cons_zero]; try rfl)
      case hQ8 => exact fun _ _ _ h => h
      case hy8 =>
        refine Or.inl ⟨by rfl, ?_⟩
        (intro wq hSw; (try dsimp only at hSw); go_simp; try with_reducible rfl)
      (try simp only [Act.put, List.setIfInBounds_toArray, List.set_cons_zero, List.set_cons_succ])
      refine wpAnyH_take (i := 11) (oi := ?oi9) (v := ?v9) ?hi9 (by kernel_rfl) (by kernel_rfl) (by kernel_rfl) ?hQ9 ?hy9 (by assumption) ?hrest9
      case hi9 => (simp only [List.getElem?_toArray, List.getElem?_cons_succ, List.getElem?_cons_zero]; try rfl)
      case hQ9 => exact fun _ _ _ h => h
      case hy9 =>
        refine Or.inl ⟨by rfl, ?_⟩
        (intro wq hSw; (try dsimp only at hSw); go_simp; try with_reducible rfl)
      (try simp only [Act.put, List.setIfInBounds_toArray, List.set_cons_zero, List.set_cons_succ])
      refine wpAnyH_take (i := 12) (oi := ?oi10) (v := ?v10) ?hi10 (by kernel_rfl) (by kernel_rfl) (by kernel_rfl) ?hQ10 ?hy10 (by assumption) ?hrest10
      case hi10 => (simp only [List.getElem?_toArray, List.getElem?_cons_succ, List.getElem?_cons_zero]; try rfl)
      case hQ10 => exact fun _ _ _ h => h
      case hy10 =>
        refine Or.inl ⟨by rfl, ?_⟩
        (intro wq hSw; (try dsimp only at hSw); go_simp; try with_reducible rfl)
      (try simp only [Act.put, List.setIfInBounds_toArray, List.set_cons_zero, List.set_cons_succ])
      refine wpAnyH_take (i := 13) (oi := ?oi11) (v := ?v11) ?hi11 (by kernel_rfl) (by kernel_rfl) (by kernel_rfl) ?hQ11 ?hy11 (by assumption) ?hrest11
      case hi11 => (simp only [List.getElem?_toArray, List.getElem?_cons_succ, List.getElem?_cons_zero]; try rfl)
      case hQ11 => exact fun _ _ _ h => h
      case hy11 =>
        refine Or.inl ⟨by rfl, ?_⟩
        (intro wq hSw; (try dsimp only at hSw); go_simp; try with_reducible rfl)
      (try simp only [Act.put, List.setIfInBounds_toArray, List.set_cons_zero, List.set_cons_succ])
      refine wpAnyH_ready (rs := [1, 8]) (by kernel_rfl) (by simp) ?_
      refine AllReadyH.cons (o := ?oi12) ?hi12 (fun K hK => ?hstep12) ?hmore12
      case hi12 => (simp only [List.getElem?_toArray, List.getElem?_cons_succ, List.getElem?_cons_zero]; try rfl)
      case hstep12 =>
        go_simp
        (have hs0 := bcur.size; (first | refine newrow1_Kd wr.heap.size hs0 ?_ | refine newrow1_Kd wr.heap.size (Nat.le_refl _) ?_ | refine newrow1_K wr.heap.size hs0 ?_); intro wx hbx hmk hrk; have bcur := below_step bcur hbx; (try have hmv := own_below hmv hbx))
        refine hK.out _ _ ?_ (fun hHeld => ?_)
        · exact ⟨cell_on hbx hHeld.1, cell_on hbx hHeld.2⟩
        clear hK K
        (try simp only [Act.put, List.setIfInBounds_toArray, List.set_cons_zero, List.set_cons_succ])
        refine wpAnyH_ready (rs := [7, 8]) (by kernel_rfl) (by simp) ?_
        refine AllReadyH.cons (o := ?oi13) ?hi13 (fun K hK => ?hstep13) ?hmore13
        case hi13 => (simp only [List.getElem?_toArray, List.getElem?_cons_succ, List.getElem?_cons_zero]; try rfl)
        case hstep13 =>
          (refine oper_app2 rfl (.tmp 32) (.tmp 37) 30 rfl wr.heap.size 5 Try.underlying30 infoB rfl (by decide) _ 0 [] rfl hmk x.kA x.k.length x.kc (x.k.map byt) rfl (by simp) (g3.below bcur) (byt_one x.k) (by omega) (by omega) bcur.size ?_; intro vk w7 ownk hg7 hat7; rw [Nat.zero_add, List.nil_append] at ownk; have bcur := bcur.grown hg7 bcur.size (fun kk hkk => (own_lt hmk hkk).1); have hk7 := (fun kk (hkk : vk.ownBlock = some kk) => own_lt ownk hkk); have hs7 := hg7.size; (try have hmv := own_apart hmv hg7 (fun kk hkk e => by have e1 := blk_two hkk e; omega)); obtain ⟨Ka, kc, hKa, _⟩ := own_shape ownk; subst hKa)
          refine hK.out _ _ ?_ (fun hHeld => ?_)
          · exact ⟨hg7.cell hHeld.1 (fun e => by have h3 := (own_lt hmk (Eq.symm e)).1; (try rw [hbk] at h3); (try dsimp only at h3); omega), hg7.cell hHeld.2 (fun e => by have h3 := (own_lt hmk (Eq.symm e)).1; (try rw [hbk] at h3); (try dsimp only at h3); omega)⟩
          clear hK K
          (try simp only [Act.put, List.setIfInBounds_toArray, List.set_cons_zero, List.set_cons_succ])
          refine wpAnyH_ready (rs := [8]) (by kernel_rfl) (by simp) ?_
          refine AllReadyH.cons (o := ?oi14) ?hi14 (fun K hK => ?hstep14) AllReadyH.nil
          case hi14 => (simp only [List.getElem?_toArray, List.getElem?_cons_succ, List.getElem?_cons_zero]; try rfl)
          go_simp
          (have hs0 := bcur.size; (first | refine newrow1_Kd wr.heap.size hs0 ?_ | refine newrow1_Kd wr.heap.size (Nat.le_refl _) ?_ | refine newrow1_K wr.heap.size hs0 ?_); intro wy hbx hmv hrv; have bcur := below_step bcur hbx; (try have hmk := own_below hmk hbx); (try have ownk := own_below ownk hbx))
          refine hK.out _ _ ?_ (fun hHeld => ?_)
          · exact ⟨cell_on hbx hHeld.1, cell_on hbx hHeld.2⟩
          clear hK K
          (try simp only [Act.put, List.setIfInBounds_toArray, List.set_cons_zero, List.set_cons_succ])
          refine wpAnyH_ready (rs := [14]) (by kernel_rfl) (by simp) ?_
          refine AllReadyH.cons (o := ?oi15) ?hi15 (fun K hK => ?hstep15) AllReadyH.nil
          case hi15 => (simp only [List.getElem?_toArray, List.getElem?_cons_succ, List.getElem?_cons_zero]; try rfl)
          (refine oper_app2 rfl (.tmp 39) (.tmp 44) 30 rfl wr.heap.size 5 Try.underlying30 infoB rfl (by decide) _ 0 [] rfl hmv x.vA x.v.length x.vc (x.v.map byt) rfl (by simp) (g4.below bcur) (byt_one x.v) (by omega) (by omega) bcur.size ?_; intro vv w14 ownv hg14 hat14; rw [Nat.zero_add, List.nil_append] at ownv; have bcur := bcur.grown hg14 bcur.size (fun kk hkk => (own_lt hmv hkk).1); have ownk := own_apart ownk hg14 (fun kk hkk e => by have hq := hk7 kk hkk; have hq2 := blk_ne hat7 hkk e; omega); obtain ⟨V2, vc, hV2, _⟩ := own_shape ownv; subst hV2)
          refine hK.out _ _ ?_ (fun hHeld => ?_)
          · exact ⟨hg14.cell hHeld.1 (fun e => by have h3 := (own_lt hmv (Eq.symm e)).1; (try rw [hbk] at h3); (try dsimp only at h3); omega), hg14.cell hHeld.2 (fun e => by have h3 := (own_lt hmv (Eq.symm e)).1; (try rw [hbk] at h3); (try dsimp only at h3); omega)⟩
          clear hK K
          (try simp only [Act.put, List.setIfInBounds_toArray, List.set_cons_zero, List.set_cons_succ])
          refine wpAnyH_take (i := 15) (oi := ?oi16) (v := ?v16) ?hi16 (by kernel_rfl) (by kernel_rfl) (by kernel_rfl) ?hQ16 ?hy16 (by assumption) ?hrest16
          case hi16 => (simp only [List.getElem?_toArray, List.getElem?_cons_succ, List.getElem?_cons_zero]; try rfl)
          case hQ16 => exact fun _ _ _ h => h
          case hy16 =>
            refine Or.inl ⟨by rfl, ?_⟩
            (intro wq hSw; (try dsimp only at hSw); go_simp; try with_reducible rfl)
          (try simp only [Act.put, List.setIfInBounds_toArray, List.set_cons_zero, List.set_cons_succ])
          refine wpAnyH_ready (rs := [16]) (by kernel_rfl) (by simp) ?_
          refine AllReadyH.cons (o := ?oi17) ?hi17 (fun K hK => ?hstep17) AllReadyH.nil
          case hi17 => (simp only [List.getElem?_toArray, List.getElem?_cons_succ, List.getElem?_cons_zero]; try rfl)
          go_simp
          ((first | refine newvar_Kd ?_ | refine newvar_K ?_); intro wz hbx nv nf nz; have n0 := nv 0 _ rfl; have n1 := nv 1 _ rfl; have ownk := own_below ownk hbx; have ownv := own_below ownv hbx; have bcur := below_step bcur hbx; clear nv nf)
          refine hK.out _ _ ?_ (fun hHeld => ?_)
          · exact ⟨cell_on hbx hHeld.1, cell_on hbx hHeld.2⟩
          clear hK K
          (try simp only [Act.put, List.setIfInBounds_toArray, List.set_cons_zero, List.set_cons_succ])
          refine wpAnyH_ready (rs := [17]) (by kernel_rfl) (by simp) ?_
          refine AllReadyH.cons (o := ?oi18) ?hi18 (fun K hK => ?hstep18) AllReadyH.nil
          case hi18 => (simp only [List.getElem?_toArray, List.getElem?_cons_succ, List.getElem?_cons_zero]; try rfl)
          (have slk := own_sl ownk; have slv := own_sl ownv; have wrv := wrt_own ownv; have fk : ∀ ad, Ka = some ad → wr.heap.size ≤ ad.block ∧ ad.block < wz.heap.size := (fun ad hA => own_lt ownk (k := ad.block) (by rw [hA]; rfl)); have fv : ∀ ad, V2 = some ad → wr.heap.size ≤ ad.block ∧ ad.block < wz.heap.size := (fun ad hA => own_lt ownv (k := ad.block) (by rw [hA]; rfl)); have hoff := pr_off (W := wz) (base := wr.heap.size) (v := u8) (x := ⟨Ka, kc, x.k, V2, vc, x.v⟩) (fun p hp => by rcases List.mem_cons.1 hp with rfl | hp; exact slk; rw [List.mem_singleton.1 hp]; exact slv) (fun kk hkk => (hown.lt hkk).2) ⟨fun ad hA => (fk ad hA).1, fun ad hA => (fv ad hA).1⟩; refine oper_app2 rfl (.tmp 31) (.tmp 47) 22 rfl w1.heap.size 47 Try.underlying22 infoP rfl (by decide) u8 outs.length (outs.flatMap prEl.cells) rfl (hown.below bcur).1 (some ⟨_, 0, none⟩) 1 1 [.slice Ka x.k.length kc, .slice V2 x.v.length vc] rfl rfl (rd2 n0 n1) (by intro u hu; simp at hu; rcases hu with rfl | rfl <;> rfl) (by have := HOL.out; omega) (by have := HOL.out; omega) (by have h1 := bcur.size; omega) ?_; intro v5 w5 own5 hg5 hat5; have hnew := OwnEls.app (ys := [⟨Ka, kc, x.k, V2, vc, x.v⟩]) (hown.below bcur).2 hoff own5 hg5 hat5; have hb5 := (hb.trans (bcur.mono hws)).grown hg5 (by have h1 := bcur.size; omega) (fun kk hkk => (hown.lt hkk).1); have hpn5 : ∀ y ∈ outs ++ [(⟨Ka, kc, x.k, V2, vc, x.v⟩ : Pr)], PrNew w1.heap.size w5.heap.size y ∧ Wrt w5 y.vA y.v.length := (fun y hy => by rcases List.mem_append.1 hy with hy | hy; (have hp := HPN.out y hy; have hz5 : wr.heap.size ≤ w5.heap.size := (by have h1 := bcur.size; have h3 := hg5.size; omega); exact ⟨⟨upA hp.1.1 hz5, upA hp.1.2 hz5⟩, wrt_app (hp.2.below bcur) (fun ad hA => by have h1 := bcur.size; have h3 := (hp.1.2 ad hA).2; omega) ((hown.2 y hy (y.val, y.v) (by simp [prEl])).2) hg5⟩); (rw [List.mem_singleton.1 hy]; have hz5 := hg5.size; exact ⟨⟨fun ad hA => ⟨Nat.le_trans hws (fk ad hA).1, Nat.lt_of_lt_of_le (fk ad hA).2 hz5⟩, fun ad hA => ⟨Nat.le_trans hws (fv ad hA).1, Nat.lt_of_lt_of_le (fv ad hA).2 hz5⟩⟩, wrt_app (y := ⟨Ka, kc, x.k, V2, vc, x.v⟩) wrv (fun ad hA => (fv ad hA).2) ((hoff ⟨Ka, kc, x.k, V2, vc, x.v⟩ (List.mem_singleton_self _) (_, x.v) (by simp [prEl]; exact .inr rfl)).2) hg5⟩)))
          refine hK.out _ _ ?_ (fun hHeld => ?_)
          · exact ⟨hg5.cell hHeld.1 (fun e => by have h3 := (hown.lt (Eq.symm e)).1; (try rw [hbk] at h3); (try dsimp only at h3); omega), hg5.cell hHeld.2 (fun e => by have h3 := (hown.lt (Eq.symm e)).1; (try dsimp only at h3); omega)⟩
          clear hK K
          (try simp only [Act.put, List.setIfInBounds_toArray, List.set_cons_zero, List.set_cons_succ])
          refine wpAnyH_take (i := 18) (oi := ?oi19) (v := ?v19) ?hi19 (by kernel_rfl) (by kernel_rfl) (by kernel_rfl) ?hQ19 ?hy19 (by assumption) ?hrest19
          case hi19 => (simp only [List.getElem?_toArray, List.getElem?_cons_succ, List.getElem?_cons_zero]; try rfl)
          case hQ19 => exact fun _ _ _ h => h
          case hy19 =>
            refine Or.inl ⟨by rfl, ?_⟩
            (intro wq hSw; (try dsimp only at hSw); go_simp; try with_reducible rfl)
          (try simp only [Act.put, List.setIfInBounds_toArray, List.set_cons_zero, List.set_cons_succ])
          refine wpAnyH_done (by kernel_rfl) ?_ _
          refine NoPanic.normal ?_
          (go_wp2_with fail; go_roundw; (case rel => (refine ⟨k + 1, _, by omega, by go_num, hnew, ⟨?_, hpn5⟩, hb5⟩; rw [List.map_append, HST.out]; rfl)); (case measure => (simp [RowKit.intOf]; omega)))
        refine AllReadyH.cons (o := ?oi20) ?hi20 (fun K hK => ?hstep20) ?hmore20
        case hi20 => (simp only [List.getElem?_toArray, List.getElem?_cons_succ, List.getElem?_cons_zero]; try rfl)
        case hstep20 =>
          go_simp
          (have hs0 := bcur.size; (first | refine newrow1_Kd wr.heap.size hs0 ?_ | refine newrow1_Kd wr.heap.size (Nat.le_refl _) ?_ | refine newrow1_K wr.heap.size hs0 ?_); intro wy hbx hmv hrv; have bcur := below_step bcur hbx; (try have hmk := own_below hmk hbx); (try have ownk := own_below ownk hbx))
          refine hK.out _ _ ?_ (fun hHeld => ?_)
          · exact ⟨cell_on hbx hHeld.1, cell_on hbx hHeld.2⟩
          clear hK K
          (try simp only [Act.put, List.setIfInBounds_toArray, List.set_cons_zero, List.set_cons_succ])
          refine wpAnyH_ready (rs := [7]) (by kernel_rfl) (by simp) ?_
          refine AllReadyH.cons (o := ?oi21) ?hi21 (fun K hK => ?hstep21) AllReadyH.nil
          case hi21 => (simp only [List.getElem?_toArray, List.getElem?_cons_succ, List.getElem?_cons_zero]; try rfl)
          (refine oper_app2 rfl (.tmp 32) (.tmp 37) 30 rfl wr.heap.size 5 Try.underlying30 infoB rfl (by decide) _ 0 [] rfl hmk x.kA x.k.length x.kc (x.k.map byt) rfl (by simp) (g3.below bcur) (byt_one x.k) (by omega) (by omega) bcur.size ?_; intro vk w7 ownk hg7 hat7; rw [Nat.zero_add, List.nil_append] at ownk; have bcur := bcur.grown hg7 bcur.size (fun kk hkk => (own_lt hmk hkk).1); have hk7 := (fun kk (hkk : vk.ownBlock = some kk) => own_lt ownk hkk); have hs7 := hg7.size; (try have hmv := own_apart hmv hg7 (fun kk hkk e => by have e1 := blk_two hkk e; omega)); obtain ⟨Ka, kc, hKa, _⟩ := own_shape ownk; subst hKa)
          refine hK.out _ _ ?_ (fun hHeld => ?_)
          · exact ⟨hg7.cell hHeld.1 (fun e => by have h3 := (own_lt hmk (Eq.symm e)).1; (try rw [hbk] at h3); (try dsimp only at h3); omega), hg7.cell hHeld.2 (fun e => by have h3 := (own_lt hmk (Eq.symm e)).1; (try rw [hbk] at h3); (try dsimp only at h3); omega)⟩
          clear hK K
          (try simp only [Act.put, List.setIfInBounds_toArray, List.set_cons_zero, List.set_cons_succ])
          refine wpAnyH_ready (rs := [14]) (by kernel_rfl) (by simp) ?_
          refine AllReadyH.cons (o := ?oi22) ?hi22 (fun K hK => ?hstep22) AllReadyH.nil
          case hi22 => (simp only [List.getElem?_toArray, List.getElem?_cons_succ, List.getElem?_cons_zero]; try rfl)
          (refine oper_app2 rfl (.tmp 39) (.tmp 44) 30 rfl wr.heap.size 5 Try.underlying30 infoB rfl (by decide) _ 0 [] rfl hmv x.vA x.v.length x.vc (x.v.map byt) rfl (by simp) (g4.below bcur) (byt_one x.v) (by omega) (by omega) bcur.size ?_; intro vv w14 ownv hg14 hat14; rw [Nat.zero_add, List.nil_append] at ownv; have bcur := bcur.grown hg14 bcur.size (fun kk hkk => (own_lt hmv hkk).1); have ownk := own_apart ownk hg14 (fun kk hkk e => by have hq := hk7 kk hkk; have hq2 := blk_ne hat7 hkk e; omega); obtain ⟨V2, vc, hV2, _⟩ := own_shape ownv; subst hV2)
          refine hK.out _ _ ?_ (fun hHeld => ?_)
          · exact ⟨hg14.cell hHeld.1 (fun e => by have h3 := (own_lt hmv (Eq.symm e)).1; (try rw [hbk] at h3); (try dsimp only at h3); omega), hg14.cell hHeld.2 (fun e => by have h3 := (own_lt hmv (Eq.symm e)).1; (try rw [hbk] at h3); (try dsimp only at h3); omega)⟩
          clear hK K
          (try simp only [Act.put, List.setIfInBounds_toArray, List.set_cons_zero, List.set_cons_succ])
          refine wpAnyH_take (i := 15) (oi := ?oi23) (v := ?v23) ?hi23 (by kernel_rfl) (by kernel_rfl) (by kernel_rfl) ?hQ23 ?hy23 (by assumption) ?hrest23
          case hi23 => (simp only [List.getElem?_toArray, List.getElem?_cons_succ, List.getElem?_cons_zero]; try rfl)
          case hQ23 => exact fun _ _ _ h => h
          case hy23 =>
            refine Or.inl ⟨by rfl, ?_⟩
            (intro wq hSw; (try dsimp only at hSw); go_simp; try with_reducible rfl)
          (try simp only [Act.put, List.setIfInBounds_toArray, List.set_cons_zero, List.set_cons_succ])
          refine wpAnyH_ready (rs := [16]) (by kernel_rfl) (by simp) ?_
          refine AllReadyH.cons (o := ?oi24) ?hi24 (fun K hK => ?hstep24) AllReadyH.nil
          case hi24 => (simp only [List.getElem?_toArray, List.getElem?_cons_succ, List.getElem?_cons_zero]; try rfl)
          go_simp
          ((first | refine newvar_Kd ?_ | refine newvar_K ?_); intro wz hbx nv nf nz; have n0 := nv 0 _ rfl; have n1 := nv 1 _ rfl; have ownk := own_below ownk hbx; have ownv := own_below ownv hbx; have bcur := below_step bcur hbx; clear nv nf)
          refine hK.out _ _ ?_ (fun hHeld => ?_)
          · exact ⟨cell_on hbx hHeld.1, cell_on hbx hHeld.2⟩
          clear hK K
          (try simp only [Act.put, List.setIfInBounds_toArray, List.set_cons_zero, List.set_cons_succ])
          refine wpAnyH_ready (rs := [17]) (by kernel_rfl) (by simp) ?_
          refine AllReadyH.cons (o := ?oi25) ?hi25 (fun K hK => ?hstep25) AllReadyH.nil
          case hi25 => (simp only [List.getElem?_toArray, List.getElem?_cons_succ, List.getElem?_cons_zero]; try rfl)
          (have slk := own_sl ownk; have slv := own_sl ownv; have wrv := wrt_own ownv; have fk : ∀ ad, Ka = some ad → wr.heap.size ≤ ad.block ∧ ad.block < wz.heap.size := (fun ad hA => own_lt ownk (k := ad.block) (by rw [hA]; rfl)); have fv : ∀ ad, V2 = some ad → wr.heap.size ≤ ad.block ∧ ad.block < wz.heap.size := (fun ad hA => own_lt ownv (k := ad.block) (by rw [hA]; rfl)); have hoff := pr_off (W := wz) (base := wr.heap.size) (v := u8) (x := ⟨Ka, kc, x.k, V2, vc, x.v⟩) (fun p hp => by rcases List.mem_cons.1 hp with rfl | hp; exact slk; rw [List.mem_singleton.1 hp]; exact slv) (fun kk hkk => (hown.lt hkk).2) ⟨fun ad hA => (fk ad hA).1, fun ad hA => (fv ad hA).1⟩; refine oper_app2 rfl (.tmp 31) (.tmp 47) 22 rfl w1.heap.size 47 Try.underlying22 infoP rfl (by decide) u8 outs.length (outs.flatMap prEl.cells) rfl (hown.below bcur).1 (some ⟨_, 0, none⟩) 1 1 [.slice Ka x.k.length kc, .slice V2 x.v.length vc] rfl rfl (rd2 n0 n1) (by intro u hu; simp at hu; rcases hu with rfl | rfl <;> rfl) (by have := HOL.out; omega) (by have := HOL.out; omega) (by have h1 := bcur.size; omega) ?_; intro v5 w5 own5 hg5 hat5; have hnew := OwnEls.app (ys := [⟨Ka, kc, x.k, V2, vc, x.v⟩]) (hown.below bcur).2 hoff own5 hg5 hat5; have hb5 := (hb.trans (bcur.mono hws)).grown hg5 (by have h1 := bcur.size; omega) (fun kk hkk => (hown.lt hkk).1); have hpn5 : ∀ y ∈ outs ++ [(⟨Ka, kc, x.k, V2, vc, x.v⟩ : Pr)], PrNew w1.heap.size w5.heap.size y ∧ Wrt w5 y.vA y.v.length := (fun y hy => by rcases List.mem_append.1 hy with hy | hy; (have hp := HPN.out y hy; have hz5 : wr.heap.size ≤ w5.heap.size := (by have h1 := bcur.size; have h3 := hg5.size; omega); exact ⟨⟨upA hp.1.1 hz5, upA hp.1.2 hz5⟩, wrt_app (hp.2.below bcur) (fun ad hA => by have h1 := bcur.size; have h3 := (hp.1.2 ad hA).2; omega) ((hown.2 y hy (y.val, y.v) (by simp [prEl])).2) hg5⟩); (rw [List.mem_singleton.1 hy]; have hz5 := hg5.size; exact ⟨⟨fun ad hA => ⟨Nat.le_trans hws (fk ad hA).1, Nat.lt_of_lt_of_le (fk ad hA).2 hz5⟩, fun ad hA => ⟨Nat.le_trans hws (fv ad hA).1, Nat.lt_of_lt_of_le (fv ad hA).2 hz5⟩⟩, wrt_app (y := ⟨Ka, kc, x.k, V2, vc, x.v⟩) wrv (fun ad hA => (fv ad hA).2) ((hoff ⟨Ka, kc, x.k, V2, vc, x.v⟩ (List.mem_singleton_self _) (_, x.v) (by simp [prEl]; exact .inr rfl)).2) hg5⟩)))
          refine hK.out _ _ ?_ (fun hHeld => ?_)
          · exact ⟨hg5.cell hHeld.1 (fun e => by have h3 := (hown.lt (Eq.symm e)).1; (try rw [hbk] at h3); (try dsimp only at h3); omega), hg5.cell hHeld.2 (fun e => by have h3 := (hown.lt (Eq.symm e)).1; (try dsimp only at h3); omega)⟩
          clear hK K
          (try simp only [Act.put, List.setIfInBounds_toArray, List.set_cons_zero, List.set_cons_succ])
          refine wpAnyH_take (i := 18) (oi := ?oi26) (v := ?v26) ?hi26 (by kernel_rfl) (by kernel_rfl) (by kernel_rfl) ?hQ26 ?hy26 (by assumption) ?hrest26
          case hi26 => (simp only [List.getElem?_toArray, List.getElem?_cons_succ, List.getElem?_cons_zero]; try rfl)
          case hQ26 => exact fun _ _ _ h => h
          case hy26 =>
            refine Or.inl ⟨by rfl, ?_⟩
            (intro wq hSw; (try dsimp only at hSw); go_simp; try with_reducible rfl)
          (try simp only [Act.put, List.setIfInBounds_toArray, List.set_cons_zero, List.set_cons_succ])
          refine wpAnyH_done (by kernel_rfl) ?_ _
          refine NoPanic.normal ?_
          (go_wp2_with fail; go_roundw; (case rel => (refine ⟨k + 1, _, by omega, by go_num, hnew, ⟨?_, hpn5⟩, hb5⟩; rw [List.map_append, HST.out]; rfl)); (case measure => (simp [RowKit.intOf]; omega)))
        exact AllReadyH.nil
      refine AllReadyH.cons (o := ?oi27) ?hi27 (fun K hK => ?hstep27) ?hmore27
      case hi27 => (simp only [List.getElem?_toArray, List.getElem?_cons_succ, List.getElem?_cons_zero]; try rfl)
      case hstep27 =>
        go_simp
        (have hs0 := bcur.size; (first | refine newrow1_Kd wr.heap.size hs0 ?_ | refine newrow1_Kd wr.heap.size (Nat.le_refl _) ?_ | refine newrow1_K wr.heap.size hs0 ?_); intro wy hbx hmv hrv; have bcur := below_step bcur hbx; (try have hmk := own_below hmk hbx); (try have ownk := own_below ownk hbx))
        refine hK.out _ _ ?_ (fun hHeld => ?_)
        · exact ⟨cell_on hbx hHeld.1, cell_on hbx hHeld.2⟩
        clear hK K
        (try simp only [Act.put, List.setIfInBounds_toArray, List.set_cons_zero, List.set_cons_succ])
        refine wpAnyH_ready (rs := [1]) (by kernel_rfl) (by simp) ?_
        refine AllReadyH.cons (o := ?oi28) ?hi28 (fun K hK => ?hstep28) AllReadyH.nil
        case hi28 => (simp only [List.getElem?_toArray, List.getElem?_cons_succ, List.getElem?_cons_zero]; try rfl)
        go_simp
        (have hs0 := bcur.size; (first | refine newrow1_Kd wr.heap.size hs0 ?_ | refine newrow1_Kd wr.heap.size (Nat.le_refl _) ?_ | refine newrow1_K wr.heap.size hs0 ?_); intro wx hbx hmk hrk; have bcur := below_step bcur hbx; (try have hmv := own_below hmv hbx))
        refine hK.out _ _ ?_ (fun hHeld => ?_)
        · exact ⟨cell_on hbx hHeld.1, cell_on hbx hHeld.2⟩
        clear hK K
        (try simp only [Act.put, List.setIfInBounds_toArray, List.set_cons_zero, List.set_cons_succ])
        refine wpAnyH_ready (rs := [7]) (by kernel_rfl) (by simp) ?_
        refine AllReadyH.cons (o := ?oi29) ?hi29 (fun K hK => ?hstep29) AllReadyH.nil
        case hi29 => (simp only [List.getElem?_toArray, List.getElem?_cons_succ, List.getElem?_cons_zero]; try rfl)
        (refine oper_app2 rfl (.tmp 32) (.tmp 37) 30 rfl wr.heap.size 5 Try.underlying30 infoB rfl (by decide) _ 0 [] rfl hmk x.kA x.k.length x.kc (x.k.map byt) rfl (by simp) (g3.below bcur) (byt_one x.k) (by omega) (by omega) bcur.size ?_; intro vk w7 ownk hg7 hat7; rw [Nat.zero_add, List.nil_append] at ownk; have bcur := bcur.grown hg7 bcur.size (fun kk hkk => (own_lt hmk hkk).1); have hk7 := (fun kk (hkk : vk.ownBlock = some kk) => own_lt ownk hkk); have hs7 := hg7.size; (try have hmv := own_apart hmv hg7 (fun kk hkk e => by have e1 := blk_two hkk e; omega)); obtain ⟨Ka, kc, hKa, _⟩ := own_shape ownk; subst hKa)
        refine hK.out _ _ ?_ (fun hHeld => ?_)
        · exact ⟨hg7.cell hHeld.1 (fun e => by have h3 := (own_lt hmk (Eq.symm e)).1; (try rw [hbk] at h3); (try dsimp only at h3); omega), hg7.cell hHeld.2 (fun e => by have h3 := (own_lt hmk (Eq.symm e)).1; (try rw [hbk] at h3); (try dsimp only at h3); omega)⟩
        clear hK K
        (try simp only [Act.put, List.setIfInBounds_toArray, List.set_cons_zero, List.set_cons_succ])
        refine wpAnyH_ready (rs := [14]) (by kernel_rfl) (by simp) ?_
        refine AllReadyH.cons (o := ?oi30) ?hi30 (fun K hK => ?hstep30) AllReadyH.nil
        case hi30 => (simp only [List.getElem?_toArray, List.getElem?_cons_succ, List.getElem?_cons_zero]; try rfl)
        (refine oper_app2 rfl (.tmp 39) (.tmp 44) 30 rfl wr.heap.size 5 Try.underlying30 infoB rfl (by decide) _ 0 [] rfl hmv x.vA x.v.length x.vc (x.v.map byt) rfl (by simp) (g4.below bcur) (byt_one x.v) (by omega) (by omega) bcur.size ?_; intro vv w14 ownv hg14 hat14; rw [Nat.zero_add, List.nil_append] at ownv; have bcur := bcur.grown hg14 bcur.size (fun kk hkk => (own_lt hmv hkk).1); have ownk := own_apart ownk hg14 (fun kk hkk e => by have hq := hk7 kk hkk; have hq2 := blk_ne hat7 hkk e; omega); obtain ⟨V2, vc, hV2, _⟩ := own_shape ownv; subst hV2)
        refine hK.out _ _ ?_ (fun hHeld => ?_)
        · exact ⟨hg14.cell hHeld.1 (fun e => by have h3 := (own_lt hmv (Eq.symm e)).1; (try rw [hbk] at h3); (try dsimp only at h3); omega), hg14.cell hHeld.2 (fun e => by have h3 := (own_lt hmv (Eq.symm e)).1; (try rw [hbk] at h3); (try dsimp only at h3); omega)⟩
        clear hK K
        (try simp only [Act.put, List.setIfInBounds_toArray, List.set_cons_zero, List.set_cons_succ])
        refine wpAnyH_take (i := 15) (oi := ?oi31) (v := ?v31) ?hi31 (by kernel_rfl) (by kernel_rfl) (by kernel_rfl) ?hQ31 ?hy31 (by assumption) ?hrest31
        case hi31 => (simp only [List.getElem?_toArray, List.getElem?_cons_succ, List.getElem?_cons_zero]; try rfl)
        case hQ31 => exact fun _ _ _ h => h
        case hy31 =>
          refine Or.inl ⟨by rfl, ?_⟩
          (intro wq hSw; (try dsimp only at hSw); go_simp; try with_reducible rfl)
        (try simp only [Act.put, List.setIfInBounds_toArray, List.set_cons_zero, List.set_cons_succ])
        refine wpAnyH_ready (rs := [16]) (by kernel_rfl) (by simp) ?_
        refine AllReadyH.cons (o := ?oi32) ?hi32 (fun K hK => ?hstep32) AllReadyH.nil
        case hi32 => (simp only [List.getElem?_toArray, List.getElem?_cons_succ, List.getElem?_cons_zero]; try rfl)
        go_simp
        ((first | refine newvar_Kd ?_ | refine newvar_K ?_); intro wz hbx nv nf nz; have n0 := nv 0 _ rfl; have n1 := nv 1 _ rfl; have ownk := own_below ownk hbx; have ownv := own_below ownv hbx; have bcur := below_step bcur hbx; clear nv nf)
        refine hK.out _ _ ?_ (fun hHeld => ?_)
        · exact ⟨cell_on hbx hHeld.1, cell_on hbx hHeld.2⟩
        clear hK K
        (try simp only [Act.put, List.setIfInBounds_toArray, List.set_cons_zero, List.set_cons_succ])
        refine wpAnyH_ready (rs := [17]) (by kernel_rfl) (by simp) ?_
        refine AllReadyH.cons (o := ?oi33) ?hi33 (fun K hK => ?hstep33) AllReadyH.nil
        case hi33 => (simp only [List.getElem?_toArray, List.getElem?_cons_succ, List.getElem?_cons_zero]; try rfl)
        (have slk := own_sl ownk; have slv := own_sl ownv; have wrv := wrt_own ownv; have fk : ∀ ad, Ka = some ad → wr.heap.size ≤ ad.block ∧ ad.block < wz.heap.size := (fun ad hA => own_lt ownk (k := ad.block) (by rw [hA]; rfl)); have fv : ∀ ad, V2 = some ad → wr.heap.size ≤ ad.block ∧ ad.block < wz.heap.size := (fun ad hA => own_lt ownv (k := ad.block) (by rw [hA]; rfl)); have hoff := pr_off (W := wz) (base := wr.heap.size) (v := u8) (x := ⟨Ka, kc, x.k, V2, vc, x.v⟩) (fun p hp => by rcases List.mem_cons.1 hp with rfl | hp; exact slk; rw [List.mem_singleton.1 hp]; exact slv) (fun kk hkk => (hown.lt hkk).2) ⟨fun ad hA => (fk ad hA).1, fun ad hA => (fv ad hA).1⟩; refine oper_app2 rfl (.tmp 31) (.tmp 47) 22 rfl w1.heap.size 47 Try.underlying22 infoP rfl (by decide) u8 outs.length (outs.flatMap prEl.cells) rfl (hown.below bcur).1 (some ⟨_, 0, none⟩) 1 1 [.slice Ka x.k.length kc, .slice V2 x.v.length vc] rfl rfl (rd2 n0 n1) (by intro u hu; simp at hu; rcases hu with rfl | rfl <;> rfl) (by have := HOL.out; omega) (by have := HOL.out; omega) (by have h1 := bcur.size; omega) ?_; intro v5 w5 own5 hg5 hat5; have hnew := OwnEls.app (ys := [⟨Ka, kc, x.k, V2, vc, x.v⟩]) (hown.below bcur).2 hoff own5 hg5 hat5; have hb5 := (hb.trans (bcur.mono hws)).grown hg5 (by have h1 := bcur.size; omega) (fun kk hkk => (hown.lt hkk).1); have hpn5 : ∀ y ∈ outs ++ [(⟨Ka, kc, x.k, V2, vc, x.v⟩ : Pr)], PrNew w1.heap.size w5.heap.size y ∧ Wrt w5 y.vA y.v.length := (fun y hy => by rcases List.mem_append.1 hy with hy | hy; (have hp := HPN.out y hy; have hz5 : wr.heap.size ≤ w5.heap.size := (by have h1 := bcur.size; have h3 := hg5.size; omega); exact ⟨⟨upA hp.1.1 hz5, upA hp.1.2 hz5⟩, wrt_app (hp.2.below bcur) (fun ad hA => by have h1 := bcur.size; have h3 := (hp.1.2 ad hA).2; omega) ((hown.2 y hy (y.val, y.v) (by simp [prEl])).2) hg5⟩); (rw [List.mem_singleton.1 hy]; have hz5 := hg5.size; exact ⟨⟨fun ad hA => ⟨Nat.le_trans hws (fk ad hA).1, Nat.lt_of_lt_of_le (fk ad hA).2 hz5⟩, fun ad hA => ⟨Nat.le_trans hws (fv ad hA).1, Nat.lt_of_lt_of_le (fv ad hA).2 hz5⟩⟩, wrt_app (y := ⟨Ka, kc, x.k, V2, vc, x.v⟩) wrv (fun ad hA => (fv ad hA).2) ((hoff ⟨Ka, kc, x.k, V2, vc, x.v⟩ (List.mem_singleton_self _) (_, x.v) (by simp [prEl]; exact .inr rfl)).2) hg5⟩)))
        refine hK.out _ _ ?_ (fun hHeld => ?_)
        · exact ⟨hg5.cell hHeld.1 (fun e => by have h3 := (hown.lt (Eq.symm e)).1; (try rw [hbk] at h3); (try dsimp only at h3); omega), hg5.cell hHeld.2 (fun e => by have h3 := (hown.lt (Eq.symm e)).1; (try dsimp only at h3); omega)⟩
        clear hK K
        (try simp only [Act.put, List.setIfInBounds_toArray, List.set_cons_zero, List.set_cons_succ])
        refine wpAnyH_take (i := 18) (oi := ?oi34) (v := ?v34) ?hi34 (by kernel_rfl) (by kernel_rfl) (by kernel_rfl) ?hQ34 ?hy34 (by assumption) ?hrest34
        case hi34 => (simp only [List.getElem?_toArray, List.getElem?_cons_succ, List.getElem?_cons_zero]; try rfl)
        case hQ34 => exact fun _ _ _ h => h
        case hy34 =>
          refine Or.inl ⟨by rfl, ?_⟩
          (intro wq hSw; (try dsimp only at hSw); go_simp; try with_reducible rfl)
        (try simp only [Act.put, List.setIfInBounds_toArray, List.set_cons_zero, List.set_cons_succ])
        refine wpAnyH_done (by kernel_rfl) ?_ _
        refine NoPanic.normal ?_
        (go_wp2_with fail; go_roundw; (case rel => (refine ⟨k + 1, _, by omega, by go_num, hnew, ⟨?_, hpn5⟩, hb5⟩; rw [List.map_append, HST.out]; rfl)); (case measure => (simp [RowKit.intOf]; omega)))
      exact AllReadyH.nil
    · obtain rfl : k = xs.length := by omega
      rw [List.take_of_length_le (by simp), HD.out] at hout
      obtain ⟨C, q, rfl, hs⟩ := own_st hown
      rw [hout] at hs
      have HPN := hid hpn
      clear hpn hout
      have hz2 : outs.length ≤ 2932031007403 := by have h1 := hs.len; have h2 := h.len; omega
      have b0 := below_step hb1 hb
      have hws := hb.size
      by_cases hr : rightP L = true
      · have hok := okay_iff.1 hr
        go_wp2_with fail
        refine (jnew_k (Bk := fun k => wr.heap.size ≤ k) (fun k hk => hk) hs hz2 hr).mono ?_
        rintro e wn ⟨jb, rfl, hj, hbn⟩
        have hjn := hid (fun N : Nat => hj.weak (Bl := fun k => (wr.heap.size ≤ k ∧ k < wn.heap.size) ∨ N ≤ k) (fun k hk hB => .inl ⟨hB, hk⟩))
        clear hj
        have bn := below_step b0 hbn
        have hsn := hbn.size
        have ba := below_alloc wn (.cells #[] 5)
        have hmo : (wn.alloc (.cells #[] 5)).ownsRow wn.heap.size 5 1 (.slice (some ⟨wn.heap.size, 0, none⟩) 0 0) 0 [] := World.ownsRow_made wn #[] 0 (Nat.le_refl _) (by simp [maxLen]) rfl
        have gB := g.below (below_step bn ba)
        go_upto_region 11 with (at_builtin; refine wpList_app rfl (.tmp 54) (.tmp 55) 30 rfl wn.heap.size 5 Try.underlying30 infoB rfl (by decide) (.slice (some ⟨wn.heap.size, 0, none⟩) 0 0) 0 [] rfl hmo B m.length d (m.map byt) rfl (by simp) gB (byt_one m) (by omega) (by omega) (by simp) ?_; intro v5 w5 hin5 hg5 hat5; have hb5 : Below wn.heap.size wn w5 := ba.grown hg5 (by simp) (by intro k hk; simp [Value.ownBlock] at hk; omega); rw [Nat.zero_add, List.nil_append] at hin5; obtain ⟨Ka, kc, hKa, _⟩ := own_shape hin5; subst hKa)
        have lt5 := hid (fun ad (hA : Ka = some ad) => own_lt hin5 (k := ad.block) (by rw [hA]; rfl))
        have b5 := below_step bn hb5
        have ba6 := below_alloc w5 (.cells #[] 5)
        have hmo6 : (w5.alloc (.cells #[] 5)).ownsRow w5.heap.size 5 1 (.slice (some ⟨w5.heap.size, 0, none⟩) 0 0) 0 [] := World.ownsRow_made w5 #[] 0 (Nat.le_refl _) (by simp [maxLen]) rfl
        have gD := gv.below (below_step b5 ba6)
        go_upto_region 12 with (at_builtin; refine wpList_app rfl (.tmp 57) (.tmp 58) 30 rfl w5.heap.size 5 Try.underlying30 infoB rfl (by decide) (.slice (some ⟨w5.heap.size, 0, none⟩) 0 0) 0 [] rfl hmo6 D v.length f (v.map byt) rfl (by simp) gD (byt_one v) (by omega) (by omega) (by simp) ?_; intro v6 w6 hin6 hg6 hat6; have hb6 : Below w5.heap.size w5 w6 := ba6.grown hg6 (by simp) (by intro k hk; simp [Value.ownBlock] at hk; omega); rw [Nat.zero_add, List.nil_append] at hin6; obtain ⟨V2, vc, hV2, _⟩ := own_shape hin6; subst hV2)
        have lt6 := hid (fun ad (hA : V2 = some ad) => own_lt hin6 (k := ad.block) (by rw [hA]; rfl))
        have b6 := below_step b5 hb6
        have hs5 := hb5.size
        have hs6 := hb6.size
        have hin5 := own_below hin5 hb6
        have hj6 := (hjn.out w6.heap.size).below (below_step hb5 hb6)
        have hap := fun k (h1 : wn.heap.size ≤ k) (h2 : k < w6.heap.size) => (hjn.out w6.heap.size).apart (below_step hb5 hb6) h1 h2
        have KP := hid (jput_k (d := kc) (f := vc) hj6 (fun k hk => .inr hk) hok (by simp) (own_rd hin5) (own_rd hin6))
        clear gB gD ba ba6 hmo hmo6 hg5 hg6 hat5 hat6
        go_wp2_with fail
        refine KP.out.mono ?_
        rintro e w7 ⟨rfl, hj7, hb7, hkp7⟩
        clear KP
        have hk7 : Okay (jput [] L m v).2 := by
          rcases jput_cases (hist := []) (m := m) (v := v) hok with ⟨_, _, h3⟩ | ⟨_, h3⟩
          · exact h3
          · rw [h3]; exact hok
        have hget : (putR L m v).2 = 0 → getP (jput [] L m v).2 m = some v := fun he => by
          rw [jput_ins he]; exact get_ins hok.1
        have HGET := hid hget
        clear hget
        obtain ⟨hist, cur, hpq⟩ : ∃ hist cur, jput [] L m v = (hist, cur) := ⟨_, _, rfl⟩
        rw [hpq] at hj7 hk7 HGET
        clear hpq
        dsimp only at hj7 hk7 HGET
        generalize (putR L m v).2 = er at HGET ⊢
        have hs7 := hb7.size
        have hke : ∀ k, wn.heap.size ≤ k → k < w6.heap.size → w7.heap[k]? = w6.heap[k]? := fun k h1 h2 => (hkp7 k (hap k h1 h2)).1
        have wrk : Wrt w7 Ka m.length := (wrt_own hin5).keep fun ad hA => hke _ (lt5.out ad hA).1 (Nat.lt_of_lt_of_le (lt5.out ad hA).2 hs6)
        have wrv : Wrt w7 V2 v.length := (wrt_own hin6).keep fun ad hA => hke _ (Nat.le_trans hs5 (lt6.out ad hA).1) (lt6.out ad hA).2
        clear hin5 hin6 hke hkp7 hap hj6
        have b7 := b6.trans (hb7.mono (Nat.le_trans hb1.size hws))
        have o7 := hown.below ((below_step hbn (below_step hb5 hb6)).trans hb7)
        have wro : ∀ y ∈ outs, Wrt w7 y.vA y.v.length := fun y hy => (HPN.out y hy).2.below ((below_step hbn (below_step hb5 hb6)).trans hb7)
        go_wp2_with fail
        refine (jpairs_k hj7 hk7).mono ?_
        rintro e w8 ⟨C8, q8, ys8, rfl, st8, hb8, own8, pv8⟩
        have b8 := below_step b7 hb8
        have hj8 := hj7.below hb8
        have hs8 := hb8.size
        go_wp2_with fail
        refine (jpairs_k hj8 hk7).mono ?_
        rintro e w9 ⟨C9, q9, ys9, rfl, st9, hb9, own9, pv9⟩
        have hs9 := hb9.size
        obtain ⟨Bz, hBz⟩ : ∃ Bz : Nat → Prop, Bz = fun k => k < w1.heap.size ∨ ((wr.heap.size ≤ k ∧ k < wn.heap.size) ∨ (w6.heap.size ≤ k ∧ k < w8.heap.size)) ∨ (∃ ad, C9 = some ad ∧ k = ad.block) ∨ (∃ ad, C = some ad ∧ k = ad.block) := ⟨_, rfl⟩
        obtain ⟨S, hS⟩ : ∃ S : List (Option Addr × Nat), S = (ys9 ++ outs).map (fun y => (y.vA, y.v.length)) ++ [(V2, v.length), (Ka, m.length)] := ⟨_, rfl⟩
        have hc9 : ∀ ad, C9 = some ad → w8.heap.size ≤ ad.block := fun ad hA => (own9.lt (k := ad.block) (by rw [hA]; rfl)).1
        have hcc : ∀ ad, C = some ad → w1.heap.size ≤ ad.block ∧ ad.block < wr.heap.size := fun ad hA => hown.lt (k := ad.block) (by rw [hA]; rfl)
        have HBS : Hid (∀ s ∈ S, ∀ ad, s.1 = some ad → 0 < s.2 → ¬ Bz ad.block) := hid (fun s hs ad hA h0 hB => by
          subst hBz
          have key : w1.heap.size ≤ ad.block ∧ ¬ (wr.heap.size ≤ ad.block ∧ ad.block < wn.heap.size) ∧ ¬ (w6.heap.size ≤ ad.block ∧ ad.block < w8.heap.size) ∧ (∀ a2, C9 = some a2 → ad.block ≠ a2.block) ∧ (∀ a2, C = some a2 → ad.block ≠ a2.block) := by
            subst hS
            rcases List.mem_append.1 hs with hs | hs
            · obtain ⟨y, hy, rfl⟩ := List.mem_map.1 hs
              dsimp only at hA h0
              have hne : y.v ≠ [] := by rintro e; rw [e] at h0; simp at h0
              rcases List.mem_append.1 hy with hy | hy
              · have hp := (pv9 y hy).1.2 ad hA
                refine ⟨by omega, by omega, by omega, fun a2 h2 he => ?_, fun a2 h2 => by have := hcc a2 h2; omega⟩
                refine (own9.2 y hy (y.val, y.v) (by simp [prEl])).2 hne (by rw [h2]; simp [Value.ownBlock]) ?_
                simp only [Pr.val, hA, h2, Value.ownBlock]; rw [he]
              · have hp := (HPN.out y hy).1.2 ad hA
                refine ⟨by omega, by omega, by omega, fun a2 h2 => by have := hc9 a2 h2; omega, fun a2 h2 he => ?_⟩
                refine (hown.2 y hy (y.val, y.v) (by simp [prEl])).2 hne (by rw [h2]; simp [Value.ownBlock]) ?_
                simp only [Pr.val, hA, h2, Value.ownBlock]; rw [he]
            · simp only [List.mem_cons, List.not_mem_nil, or_false] at hs
              rcases hs with rfl | rfl
              · have hp := lt6.out ad hA
                exact ⟨by omega, by omega, by omega, fun a2 h2 => by have := hc9 a2 h2; omega, fun a2 h2 => by have := hcc a2 h2; omega⟩
              · have hp := lt5.out ad hA
                exact ⟨by omega, by omega, by omega, fun a2 h2 => by have := hc9 a2 h2; omega, fun a2 h2 => by have := hcc a2 h2; omega⟩
          obtain ⟨k1, k2, k3, k4, k5⟩ := key
          rcases hB with hB | (hB | hB) | ⟨a2, h2, he⟩ | ⟨a2, h2, he⟩
          · omega
          · exact k2 hB
          · exact k3 hB
          · exact k4 a2 h2 he
          · exact k5 a2 h2 he)
        have HW0 : Hid (WW Bz w9 w9 S) := hid ⟨Wr.refl _ _, fun s hs => by
          subst hS
          rcases List.mem_append.1 hs with hs | hs
          · obtain ⟨y, hy, rfl⟩ := List.mem_map.1 hs
            rcases List.mem_append.1 hy with hy | hy
            · exact (pv9 y hy).2
            · exact (wro y hy).below (below_step hb8 hb9)
          · simp only [List.mem_cons, List.not_mem_nil, or_false] at hs
            rcases hs with rfl | rfl
            · exact wrv.below (below_step hb8 hb9)
            · exact wrk.below (below_step hb8 hb9)⟩
        have HSm : Hid (∀ y, y ∈ ys9 ++ outs → (y.vA, y.v.length) ∈ S) := hid (fun y hy => by subst hS; exact List.mem_append_left _ (List.mem_map_of_mem hy))
        have HSv : Hid ((V2, v.length) ∈ S) := hid (by subst hS; exact List.mem_append_right _ (by simp))
        have HSk : Hid ((Ka, m.length) ∈ S) := hid (by subst hS; exact List.mem_append_right _ (by simp))
        have HBl9 : Hid (∀ ad (k : Nat), C9 = some ad → k = ad.block → Bz k) := hid (fun ad k h1 h2 => by subst hBz; exact .inr (.inr (.inl ⟨ad, h1, h2⟩)))
        have HBlC : Hid (∀ ad (k : Nat), C = some ad → k = ad.block → Bz k) := hid (fun ad k h1 h2 => by subst hBz; exact .inr (.inr (.inr ⟨ad, h1, h2⟩)))
        have hj9 := (hj8.weak (Bl := Bz) (fun k hk hB => by subst hBz; rcases hB with hB | hB; exact .inr (.inl (.inl hB)); exact .inr (.inl (.inr ⟨hB, hk⟩)))).below hb9
        have HBw : Hid (∀ k, k < w1.heap.size → Bz k) := hid (fun k hk => by subst hBz; exact .inl hk)
        have HB8 : Hid (∀ k, w7.heap.size ≤ k ∧ k < w8.heap.size → Bz k) := hid (fun k hk => by subst hBz; exact .inr (.inl (.inr ⟨by omega, hk.2⟩)))
        have stC := hs.below (below_step (below_step ((below_step hbn (below_step hb5 hb6)).trans hb7) hb8) hb9)
        have sl_len : ∀ {W : World} {y : Pr}, (∀ p ∈ prEl.cons y, Sl W p.1 p.2) → y.v.length ≤ maxLen := fun {W y} h => by
          obtain ⟨_, c, _, h1, h2, _⟩ := h (y.val, y.v) (by simp [prEl])
          exact Nat.le_trans h1 h2
        have HSz : Hid (∀ s ∈ S, s.2 ≤ maxLen) := hid (fun s hs => by
          subst hS
          rcases List.mem_append.1 hs with hs | hs
          · obtain ⟨y, hy, rfl⟩ := List.mem_map.1 hs
            rcases List.mem_append.1 hy with hy | hy
            · exact sl_len (st9.1.2 y hy)
            · exact sl_len (stC.1.2 y hy)
          · simp only [List.mem_cons, List.not_mem_nil, or_false] at hs
            rcases hs with rfl | rfl
            · simp only [maxLen]; omega
            · simp only [maxLen]; omega)
        simp only [maxLen] at HSz
        have HLn9 : Hid (ys9.length ≤ 2932031007403) := hid (by have h1 := st9.len; have h2 := hk7.len; omega)
        have HLnC : Hid (outs.length ≤ 2932031007403) := hid hz2
        clear sl_len hBz hS
        clear wrk wrv wro o7 hjn hj8
        go_wp2_with fail
        go_loopw [16] (fun i W => ∃ k : Nat, k ≤ ys9.length ∧ i = .int .i64 k ∧ WW Bz w9 W S) (fun i _ => ys9.length - (RowKit.intOf i).toNat)
        case atStart => exact ⟨0, by omega, rfl, HW0.out⟩
        case round =>
          obtain ⟨k, hk, rfl, hww⟩ := hrel
          by_cases hlt : k < ys9.length
          · obtain ⟨ad, had, _, p2, _, _⟩ := pr_at st9.1 k hlt
            have hbS := HSm.out ys9[k] (List.mem_append_left _ (List.getElem_mem hlt))
            have hbl : Bz (ad.add (k * 2)).block := HBl9.out ad _ had (block_add _ _)
            subst had
            have hyl := HSz.out _ hbS
            have hyz := HLn9.out
            generalize ys9[k] = y at p2 hbS hyl
            dsimp only at hyl
            unfold Pr.val at p2
            have i1 : (k : Int) < ys9.length := by omega
            have p2w := hid (fun W (hW : WW Bz w9 W S) => hW.cell (p := ⟨(ad.add (k * 2)).block, (ad.add (k * 2)).off + 1, none⟩) hbl p2)
            clear p2 hbl
            go_wp2_with fail
            go_loopw [17] (fun n W => ∃ z : Nat, z ≤ y.v.length ∧ n = .int .i64 z ∧ WW Bz w9 W S) (fun n _ => y.v.length - (RowKit.intOf n).toNat)
            case atStart => exact ⟨0, by omega, rfl, hww⟩
            case round =>
              obtain ⟨z, hz, rfl, hww⟩ := hrel
              have p2 := p2w.out _ hww
              by_cases hlz : z < y.v.length
              · have i2 : (z : Int) < y.v.length := by omega
                obtain ⟨a2, u, hA, hc, hf⟩ := hww.2 _ hbS z hlz
                have hnb := HBS.out _ hbS a2 hA (Nat.lt_of_le_of_lt (Nat.zero_le _) hlz)
                dsimp only at hA
                rw [hA] at p2
                go_wp2_with fail
                go_roundw
                case rel => exact ⟨z + 1, by omega, by go_num, hww.set (by rw [block_add]; exact hnb) _⟩
                case measure => simp [RowKit.intOf]; omega
              · obtain rfl : z = y.v.length := by omega
                go_wp2_with fail
                go_roundw
                case rel => exact ⟨k + 1, by omega, by go_num, hww⟩
                case measure => simp [RowKit.intOf]; omega
          · obtain rfl : k = ys9.length := by omega
            have HW0 := hid hww
            clear hww
            go_wp2_with fail
            go_loopw [18] (fun i W => ∃ k : Nat, k ≤ outs.length ∧ i = .int .i64 k ∧ WW Bz w9 W S) (fun i _ => outs.length - (RowKit.intOf i).toNat)
            case atStart => exact ⟨0, by omega, rfl, HW0.out⟩
            case round =>
              obtain ⟨k, hk, rfl, hww⟩ := hrel
              by_cases hlt : k < outs.length
              · obtain ⟨ad, had, _, p2, _, _⟩ := pr_at stC.1 k hlt
                have hbS := HSm.out outs[k] (List.mem_append_right _ (List.getElem_mem hlt))
                have hbl : Bz (ad.add (k * 2)).block := HBlC.out ad _ had (block_add _ _)
                subst had
                have hyl := HSz.out _ hbS
                have hyz := HLnC.out
                generalize outs[k] = y at p2 hbS hyl
                dsimp only at hyl
                unfold Pr.val at p2
                have i1 : (k : Int) < outs.length := by omega
                have p2w := hid (fun W (hW : WW Bz w9 W S) => hW.cell (p := ⟨(ad.add (k * 2)).block, (ad.add (k * 2)).off + 1, none⟩) hbl p2)
                clear p2 hbl
                go_wp2_with fail
                go_loopw [19] (fun n W => ∃ z : Nat, z ≤ y.v.length ∧ n = .int .i64 z ∧ WW Bz w9 W S) (fun n _ => y.v.length - (RowKit.intOf n).toNat)
                case atStart => exact ⟨0, by omega, rfl, hww⟩
                case round =>
                  obtain ⟨z, hz, rfl, hww⟩ := hrel
                  have p2 := p2w.out _ hww
                  by_cases hlz : z < y.v.length
                  · have i2 : (z : Int) < y.v.length := by omega
                    obtain ⟨a2, u, hA, hc, hf⟩ := hww.2 _ hbS z hlz
                    have hnb := HBS.out _ hbS a2 hA (Nat.lt_of_le_of_lt (Nat.zero_le _) hlz)
                    dsimp only at hA
                    rw [hA] at p2
                    go_wp2_with fail
                    go_roundw
                    case rel => exact ⟨z + 1, by omega, by go_num, hww.set (by rw [block_add]; exact hnb) _⟩
                    case measure => simp [RowKit.intOf]; omega
                  · obtain rfl : z = y.v.length := by omega
                    go_wp2_with fail
                    go_roundw
                    case rel => exact ⟨k + 1, by omega, by go_num, hww⟩
                    case measure => simp [RowKit.intOf]; omega
              · obtain rfl : k = outs.length := by omega
                have HW0 := hid hww
                clear hww
                go_wp2_with fail
                go_loopw [20] (fun n W => ∃ z : Nat, z ≤ v.length ∧ n = .int .i64 z ∧ WW Bz w9 W S) (fun n _ => v.length - (RowKit.intOf n).toNat)
                case atStart => exact ⟨0, by omega, rfl, HW0.out⟩
                case round =>
                  obtain ⟨z, hz, rfl, hww⟩ := hrel
                  by_cases hlz : z < v.length
                  · have i2 : (z : Int) < v.length := by omega
                    obtain ⟨a2, u, hA, hc, hf⟩ := hww.2 _ HSv.out z hlz
                    have hnb := HBS.out _ HSv.out a2 hA (Nat.lt_of_le_of_lt (Nat.zero_le _) hlz)
                    dsimp only at hA
                    subst hA
                    go_wp2_with fail
                    go_roundw
                    case rel => exact ⟨z + 1, by omega, by go_num, hww.set (by rw [block_add]; exact hnb) _⟩
                    case measure => simp [RowKit.intOf]; omega
                  · obtain rfl : z = v.length := by omega
                    have HW0 := hid hww
                    clear hww
                    go_wp2_with fail
                    go_loopw [21] (fun n W => ∃ z : Nat, z ≤ m.length ∧ n = .int .i64 z ∧ WW Bz w9 W S) (fun n _ => m.length - (RowKit.intOf n).toNat)
                    case atStart => exact ⟨0, by omega, rfl, HW0.out⟩
                    case round =>
                      obtain ⟨z, hz, rfl, hww⟩ := hrel
                      by_cases hlz : z < m.length
                      · have i2 : (z : Int) < m.length := by omega
                        obtain ⟨a2, u, hA, hc, hf⟩ := hww.2 _ HSk.out z hlz
                        have hnb := HBS.out _ HSk.out a2 hA (Nat.lt_of_le_of_lt (Nat.zero_le _) hlz)
                        dsimp only at hA
                        subst hA
                        go_wp2_with fail
                        go_roundw
                        case rel => exact ⟨z + 1, by omega, by go_num, hww.set (by rw [block_add]; exact hnb) _⟩
                        case measure => simp [RowKit.intOf]; omega
                      · obtain rfl : z = m.length := by omega
                        have HW0 := hid hww
                        clear hww
                        go_wp2_with fail
                        have hww := HW0.out
                        have hjF := hj9.turn (fun k hk _ => hww.1.block k hk) (Nat.le_of_eq hww.1.size.symm)
                        have hbF := hww.1.below HBw.out
                        have bF := (below_step b8 hb9).trans (hbF.mono hb1.size)
                        have st8F : St wr C8 q8 ys8 cur := st_keep (P := fun k => w7.heap.size ≤ k ∧ k < w8.heap.size) (st8.below hb9) (fun ad hA => own8.lt (k := ad.block) (by rw [hA]; rfl)) (fun y hy => (pv8 y hy).1) (fun k hk => hww.1.block k (HB8.out k hk))
                        refine (jget_any (d := d) hjF hk7 (g.below bF)).mono ?_
                        rintro e w10 ⟨D10, k10, r10, rfl, hr10, rd10, hb10⟩
                        generalize getP cur m = o at hr10 HGET ⊢
                        go_wp2_with fail
                        refine (jpairs_any (hjF.below hb10) hk7).mono ?_
                        rintro e w11 ⟨C11, q11, ys11, rfl, st11, hb11⟩
                        have KS := same_st st11 ((st8F.below hb10).below hb11) (by have := st11.len; have := hk7.len; omega)
                        rw [decide_eq_true rfl] at KS
                        have KS := hid KS
                        have bZ := below_step (below_step bF hb10) hb11
                        go_wp2_with fail
                        refine KS.out.mono ?_
                        rintro e w12 ⟨rfl, hb12⟩
                        have bZ := below_step bZ hb12
                        by_cases he : er = 0
                        · have ho := HGET.out he
                          subst ho
                          subst he
                          obtain rfl : v = r10 := hr10
                          have cv1 := conv_bs (P := Try.prog) Try.underlying30 Try.underlying5 Try.underlying9 ((rd10.below hb11).below hb12) k10
                          have cv2 := conv_bs (P := Try.prog) Try.underlying30 Try.underlying5 Try.underlying9 (gv.below bZ) f
                          go_wp2_with fail
                          go_ret
                          exact ⟨rfl, bZ⟩
                        · go_wp2_with fail
                          go_ret
                          exact ⟨rfl, bZ⟩
      · have hr : rightP L = false := by simpa using hr
        go_wp2_with fail
        refine (jnew_no hs hz2 hr).mono ?_
        rintro e w2 ⟨rfl, hb2⟩
        go_wp2_with fail
        go_ret
        exact ⟨rfl, below_step b0 hb2⟩
end Go.Proofs.Ytlekoeddcjjjdaa
