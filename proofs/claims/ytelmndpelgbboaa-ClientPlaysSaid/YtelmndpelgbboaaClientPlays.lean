/-
  The walk of the law ClientPlays.
-/
import Derived.Test.YtelmndpelgbboaaDcI
namespace Go.Proofs.Ytelmndpelgbboaa
open Go.RowKit Go.Conc Go.Cov Go.Lib
theorem els_other {b c : Nat} {w w' : World} {A : Option Addr} {rs : List Rq} (h : Els rqEl w A rs) (hg : Gro b c w w') (hA : ∀ ad, A = some ad → ad.block ≠ b ∧ ad.block ≠ c) (hr : ∀ r ∈ rs, ∀ k, At r.A r.body k → k ≠ b ∧ k ≠ c) : Els rqEl w' A rs := by
  refine ⟨hg.rd h.1 hA, fun a ha p hp => ?_⟩
  have h1 := h.2 a ha p hp
  rw [List.mem_singleton.1 hp] at h1 ⊢
  exact sl_gro h1 hg fun hl ad hA => hr a ha ad.block ⟨hl, ad, hA, rfl⟩
theorem Dl.ansApart {w : World} {base db : Nat} {d : Ds} (h : Dl w base db d) {a : An} (ha : a ∈ d.ans) : ∀ k, At a.V a.l k → k ≠ db ∧ k ≠ d.lb db := fun k hk => by
  obtain ⟨hl, ad, hA, rfl⟩ := hk
  refine ⟨(h.ans a ha hl ad hA).1, fun e => ?_⟩
  rcases h.lb_cases with h1 | ⟨h1, _⟩
  · exact (h.ans a ha hl ad hA).1 (e.trans h1)
  · have h2 := (h.own.2 a ha (a.val, a.l) (by simp [anEl])).2 hl (by rw [h1]; simp)
    refine h2 ?_
    rw [h1, ← e]
    show (Value.slice a.V a.l.length a.c).ownBlock = _
    rw [hA]; rfl
theorem atall_len {s : Cs} (h : 0 ≤ s.f ∧ s.f ≤ 3) : (atAll s).length ≤ 100 := by
  unfold atAll
  split
  · rw [rqs_len]; omega
  · simp
theorem gro_belowC {w w' : World} {base cb : Nat} {s : Cs} {n : Nat} (h : Cl w base cb s) (hn : n ≤ base) (hs : n ≤ w.heap.size) (hg : Gro cb s.xc w w') : Below n w w' := hg.below (Nat.le_trans hn h.lo.1) (Nat.le_trans hn h.lo.2.2) hs
theorem gro_belowD {w w' : World} {base db : Nat} {d : Ds} {n : Nat} (h : Dl w base db d) (hn : n ≤ base) (hs : n ≤ w.heap.size) (hg : Gro db (d.lb db) w w') : Below n w w' := hg.below (Nat.le_trans hn h.lo) (Nat.le_trans hn h.lt.2.2) hs
theorem waits_clw {w : World} {base cb : Nat} {s : Cs} (h : Cl w base cb s) {b : Bool} (hb : s.waits = b) : Calls Try.prog 11 #[.pointer (some ⟨cb, 0, none⟩)] w fun e w' => e = .returned (.bool b) ∧ w' = w := by
  have := waits_cl h
  rwa [hb] at this
set_option maxRecDepth 100000 in
set_option maxHeartbeats 6400000 in
theorem plays_law {B : Option Addr} {bc : Nat} {os : List Qw} {w : World} (f number again room : Int) (_hf : -9223372036854775808 ≤ f ∧ f < 9223372036854775808) (_hn : -9223372036854775808 ≤ number ∧ number < 9223372036854775808) (_ha : -9223372036854775808 ≤ again ∧ again < 9223372036854775808) (_hr : -9223372036854775808 ≤ room ∧ room < 9223372036854775808) (hq : Els qwEl w B os) :
    Calls Try.prog 5 #[.int .i64 f, .int .i64 number, .int .i64 again, .int .i64 room, .slice B os.length bc] w fun e w' => e = .returned (.bool true) ∧ Below w.heap.size w w' := by
  go_enter Try.func5, Try.ntmps5
  go_wp2_with fail
  refine (chead_any w).mono ?_
  rintro e w1 ⟨rfl, hb1⟩
  have hs1 := hb1.size
  by_cases hok : okC f number again room
  · go_wp2_with fail
    refine (new_cl hok w1).mono ?_
    rintro e w2 ⟨cb, xb, xc, rfl, hC0, hb2⟩
    have b2 := below_step hb1 hb2
    go_wp2_with fail
    refine (new_dl hok w2).mono ?_
    rintro e w3 ⟨db, rfl, hD0, hb3⟩
    have b3 := below_step b2 hb3
    have hB0 := bo_new hC0 hb3 hD0
    go_wp2_with fail
    refine (cgreat_any (hq.below b3)).mono ?_
    rintro e w4 ⟨gr, rfl, hgr, hb4⟩
    have b4 := below_step b3 hb4
    have hB0 := hB0.below hb4
    cases gr
    case true =>
      go_wp2_with fail
      go_ret
      exact ⟨rfl, b4⟩
    case false =>
      obtain ⟨hfew, hlen⟩ := hgr rfl
      clear hgr
      have hwj : w.heap.size ≤ w1.heap.size := hs1
      have hwd : w.heap.size ≤ w2.heap.size := b2.size
      go_wp2_with fail
      go_loopw [14] (fun i W => ∃ (k : Nat) (s : Cs) (d : Ds), k ≤ os.length ∧ i = .int .i64 k ∧ FineB s ∧ Alike s d ∧ Bo W w1.heap.size w2.heap.size cb db s d ∧ Below w.heap.size w W) (fun i _ => os.length - (RowKit.intOf i).toNat)
      case atStart => exact ⟨0, _, _, by omega, rfl, fine_new hok xb xc, alike_new, hB0, b4⟩
      case round =>
        obtain ⟨k, s, d, hk, rfl, hF, hAl, hB, hb⟩ := hrel
        by_cases hlt : k < os.length
        · have i1 : (k : Int) < os.length := by omega
          obtain ⟨ad, rfl, hc, r1, r2⟩ := qw_at hq k hlt
          obtain ⟨hl1, hl2⟩ := hfew os[k] (List.getElem_mem hlt)
          generalize os[k] = x at hc r1 r2 hl1 hl2
          have c0 : wr.cell? (ad.add (k * 17)) = some (.int .i64 x.what) := cell_on hb (by have := hc 0 _ rfl; rwa [add_zero'] at this)
          have RB := hid r1
          have RM := hid r2
          have HC := hid hc
          have hws := hb.size
          clear r1 r2 hc
          obtain ⟨z, hz⟩ : ∃ z, bits .and .i64 x.what 7 = z := ⟨_, rfl⟩
          by_cases ez : z = 0
          · subst ez
            have c1 := fun W (hW : Below w.heap.size w W) => cell_on hW (show w.cell? ⟨(ad.add (k * 17)).block, (ad.add (k * 17)).off + 1, none⟩ = some (.slice x.A x.body.length x.c) from HC.out 1 _ rfl)
            have c1r := c1 _ hb
            by_cases hm : mayAsk s x.body
            · have KA := hid (ask_yes (d := x.c) hB.pc hF.1 hm (fun W hW => RB.out.below (hb.trans (gro_belowC hB.pc hwj hws hW))))
              have HM := hid hm
              clear hm
              go_wp2_with fail
              refine KA.out.mono ?_
              rintro e wx ⟨V, kk, gb, rfl, hC2, hE, hgb, hV, hcap, hG⟩
              have hBx := hB.byC hC2 hG (ask_c hV)
              have hbx := hb.trans (gro_belowC hB.pc hwj hws hG)
              have hFz := fine_ask hF HM.out V hcap
              have hr := hF.1.1
              have KD := hid (ask_yes_d (d := x.c) hBx.pd (by rw [hAl.f, hAl.view, hAl.count]; exact ⟨hr.1, hr.2.1, hF.1.2.1, hF.1.2.2.2.1⟩) ((al_may hAl hF x.body).1 HM.out) (fun W hW => RB.out.below (hbx.trans (gro_belowD hBx.pd hwd hbx.size hW))))
              have hdl := hB.pd.lt
              have c1x := c1 _ hbx
              clear KA c1r hr hcap hV
              go_wp2_with fail
              refine KD.out.mono ?_
              rintro e wy ⟨V2, kk2, gb2, rfl, hD2, hE2, hV2, hG2⟩
              have hBy := hBx.byD hD2 hG2 (ask_d hV2)
              have hby := hbx.trans (gro_belowD hBx.pd hwd hbx.size hG2)
              have hAz := ask_al hAl x.body V V2 kk kk2
              have hE := els_other hE hG2 (fun ad hA => by cases hA; exact (show gb ≠ db ∧ gb ≠ d.lb db from by omega)) (fun r hr k hk => by
                rw [List.mem_singleton.1 hr] at hk
                have h1 : CB cb (asks s x.body V kk) k := .inr (.inr (.inr (.inl hk)))
                exact ⟨fun e => hBx.apt k h1 (.inl e), fun e => hBx.apt k h1 (.inr (.inl e))⟩)
              have KS := hid (same_rqs (c := 1) (d := 1) (n := 1) hE hE2 rfl (by simp only [List.map_cons, List.map_nil, Rq.data]; rw [hAl.view, hAl.f, hAl.number, hAl.count]) (by decide))
              clear KD hE hE2 hD2 hG2 hC2 hG hBx c1x c1
              go_wp2_with fail
              refine KS.out.mono ?_
              rintro e wz ⟨rfl, hbz⟩
              have hBz := hBy.below hbz
              have hbz := below_step hby hbz
              clear KS hBy hby
              obtain ⟨ww, hww⟩ : ∃ ww, (asks s x.body V kk).waits = ww := ⟨_, rfl⟩
              have KW := hid (fun W (hW : Below wz.heap.size wz W) => waits_clw (hBz.pc.gro hW) hww)
              have c5 : wz.cell? ⟨db, 5, none⟩ = some (.bool ww) := by have := (hBz.pd.row.2 5 _ rfl).1; rw [← hww, ← hAz.waits]; exact this
              have k5 := fun W (hW : Below wz.heap.size wz W) => cell_on hW c5
              clear hww
              go_upto_region 25 with fail
              refine wp_region_noPanic ?_
              refine wp_region_held_drew (S := (fun W => Below wz.heap.size wz W)) (by kernel_rfl) ?_ (fun hHeld => ?_)
              · exact (Below.refl _ _).drew
              refine wpAnyH_take (i := 0) (oi := ?oi1) (v := ?v1) ?hi1 (by kernel_rfl) (by kernel_rfl) (by kernel_rfl) ?hQ1 ?hy1 (by assumption) ?hrest1
              case hi1 => (simp only [List.getElem?_toArray, List.getElem?_cons_zero]; try rfl)
              case hQ1 => exact fun _ _ _ h => h
              case hy1 =>
                refine Or.inl ⟨by rfl, ?_⟩
                (intro wq hSw; (try dsimp only at hSw); go_simp; try with_reducible rfl)
              (try simp only [Act.put, List.setIfInBounds_toArray, List.set_cons_zero, List.set_cons_succ])
              refine wpAnyH_take (i := 1) (oi := ?oi2) (v := ?v2) ?hi2 (by kernel_rfl) (by kernel_rfl) (by kernel_rfl) ?hQ2 ?hy2 (by assumption) ?hrest2
              case hi2 => (simp only [List.getElem?_toArray, List.getElem?_cons_succ, List.getElem?_cons_zero]; try rfl)
              case hQ2 => exact fun _ _ _ h => h
              case hy2 =>
                refine Or.inl ⟨by rfl, ?_⟩
                (intro wq hSw; (try dsimp only at hSw); go_simp; try with_reducible rfl)
              (try simp only [Act.put, List.setIfInBounds_toArray, List.set_cons_zero, List.set_cons_succ])
              refine wpAnyH_take (i := 2) (oi := ?oi3) (v := ?v3) ?hi3 (by kernel_rfl) (by kernel_rfl) (by kernel_rfl) ?hQ3 ?hy3 (by assumption) ?hrest3
              case hi3 => (simp only [List.getElem?_toArray, List.getElem?_cons_succ, List.getElem?_cons_zero]; try rfl)
              case hQ3 => exact fun _ _ _ h => h
              case hy3 =>
                refine Or.inl ⟨by rfl, ?_⟩
                (intro wq hSw; (try dsimp only at hSw); go_simp; try with_reducible rfl)
              (try simp only [Act.put, List.setIfInBounds_toArray, List.set_cons_zero, List.set_cons_succ])
              refine wpAnyH_take (i := 3) (oi := ?oi4) (v := ?v4) ?hi4 (by kernel_rfl) (by kernel_rfl) (by kernel_rfl) ?hQ4 ?hy4 (by assumption) ?hrest4
              case hi4 => (simp only [List.getElem?_toArray, List.getElem?_cons_succ, List.getElem?_cons_zero]; try rfl)
              case hQ4 => exact fun _ _ _ h => h
              case hy4 =>
                refine Or.inl ⟨by rfl, ?_⟩
                (intro wq hSw; (try dsimp only at hSw); go_simp; try with_reducible rfl)
              (try simp only [Act.put, List.setIfInBounds_toArray, List.set_cons_zero, List.set_cons_succ])
              refine wpAnyH_take (i := 5) (oi := ?oi5) (v := ?v5) ?hi5 (by kernel_rfl) (by kernel_rfl) (by kernel_rfl) ?hQ5 ?hy5 (by assumption) ?hrest5
              case hi5 => (simp only [List.getElem?_toArray, List.getElem?_cons_succ, List.getElem?_cons_zero]; try rfl)
              case hQ5 => exact fun _ _ _ h => h
              case hy5 =>
                refine Or.inl ⟨by rfl, ?_⟩
                (intro wq hSw; (try dsimp only at hSw); go_simp; try with_reducible rfl)
              (try simp only [Act.put, List.setIfInBounds_toArray, List.set_cons_zero, List.set_cons_succ])
              refine wpAnyH_take (i := 6) (oi := ?oi6) (v := ?v6) ?hi6 (by kernel_rfl) (by kernel_rfl) (by kernel_rfl) ?hQ6 ?hy6 (by assumption) ?hrest6
              case hi6 => (simp only [List.getElem?_toArray, List.getElem?_cons_succ, List.getElem?_cons_zero]; try rfl)
              case hQ6 => exact fun _ _ _ h => h
              case hy6 =>
                refine Or.inl ⟨by rfl, ?_⟩
                (intro wq hSw; (try dsimp only at hSw); go_simp; try with_reducible rfl)
              (try simp only [Act.put, List.setIfInBounds_toArray, List.set_cons_zero, List.set_cons_succ])
              refine wpAnyH_take (i := 7) (oi := ?oi7) (v := ?v7) ?hi7 (by kernel_rfl) (by kernel_rfl) (by kernel_rfl) ?hQ7 ?hy7 (by assumption) ?hrest7
              case hi7 => (simp only [List.getElem?_toArray, List.getElem?_cons_succ, List.getElem?_cons_zero]; try rfl)
              case hQ7 => exact fun _ _ _ h => h
              case hy7 =>
                refine Or.inl ⟨by rfl, ?_⟩
                (intro wq hSw; (try dsimp only at hSw); go_simp; try with_reducible rfl)
              (try simp only [Act.put, List.setIfInBounds_toArray, List.set_cons_zero, List.set_cons_succ])
              refine wpAnyH_take (i := 8) (oi := ?oi8) (v := ?v8) ?hi8 (by kernel_rfl) (by kernel_rfl) (by kernel_rfl) ?hQ8 ?hy8 (by assumption) ?hrest8
              case hi8 => (simp only [List.getElem?_toArray, List.getElem?_cons_succ, List.getElem?_cons_zero]; try rfl)
              case hQ8 => exact fun _ _ _ h => h
              case hy8 =>
                refine Or.inl ⟨by rfl, ?_⟩
                (intro wq hSw; (try dsimp only at hSw); go_simp; try with_reducible rfl)
              (try simp only [Act.put, List.setIfInBounds_toArray, List.set_cons_zero, List.set_cons_succ])
              refine wpAnyH_ready (rs := [4]) (by kernel_rfl) (by simp) ?_
              refine AllReadyH.cons (o := ?oi9) ?hi9 (fun K hK => ?hstep9) AllReadyH.nil
              case hi9 => (simp only [List.getElem?_toArray, List.getElem?_cons_succ, List.getElem?_cons_zero]; try rfl)
              go_simp
              (refine (KW.out _ hHeld).mono ?_; rintro e wx ⟨rfl, rfl⟩)
              refine hK.out _ _ hHeld (fun hHeld => ?_)
              clear hK K
              (try simp only [Act.put, List.setIfInBounds_toArray, List.set_cons_zero, List.set_cons_succ])
              refine wpAnyH_take (i := 9) (oi := ?oi10) (v := ?v10) ?hi10 (by kernel_rfl) (by kernel_rfl) (by kernel_rfl) ?hQ10 ?hy10 (by assumption) ?hrest10
              case hi10 => (simp only [List.getElem?_toArray, List.getElem?_cons_succ, List.getElem?_cons_zero]; try rfl)
              case hQ10 => exact fun _ _ _ h => h
              case hy10 =>
                refine Or.inl ⟨by rfl, ?_⟩
                (intro wq hSw; (try dsimp only at hSw); go_simp; try with_reducible rfl)
              (try simp only [Act.put, List.setIfInBounds_toArray, List.set_cons_zero, List.set_cons_succ])
              refine wpAnyH_take (i := 10) (oi := ?oi11) (v := ?v11) ?hi11 (by kernel_rfl) (by kernel_rfl) (by kernel_rfl) ?hQ11 ?hy11 (by assumption) ?hrest11
              case hi11 => (simp only [List.getElem?_toArray, List.getElem?_cons_succ, List.getElem?_cons_zero]; try rfl)
              case hQ11 => exact fun _ _ _ h => h
              case hy11 =>
                refine Or.inl ⟨by rfl, ?_⟩
                (intro wq hSw; (try dsimp only at hSw); go_simp; try with_reducible rfl)
              (try simp only [Act.put, List.setIfInBounds_toArray, List.set_cons_zero, List.set_cons_succ])
              refine wpAnyH_done (by kernel_rfl) ?_ _
              refine NoPanic.normal ?_
              go_wp2_with fail
              go_roundw
              case rel => exact ⟨k + 1, asks s x.body V kk, asksD d x.body V2 kk2, by omega, by go_num, hFz, hAz, hBz.below hHeld, below_step hbz hHeld⟩
              case measure => simp [RowKit.intOf]; omega

            · have KA := hid (ask_no (B := x.A) (d := x.c) hB.pc hF.1 hm)
              have HM := hid hm
              clear hm
              go_wp2_with fail
              refine KA.out.mono ?_
              rintro e wx ⟨rfl, hbx0⟩
              have hBx := hB.below hbx0
              have hbx := below_step hb hbx0
              have KD := hid (ask_no_d (B := x.A) (d := x.c) hBx.pd (fun e => HM.out ((al_may hAl hF x.body).2 e)))
              have c1x := c1 _ hbx
              clear KA c1r
              go_wp2_with fail
              refine KD.out.mono ?_
              rintro e wy ⟨rfl, hby0⟩
              have hBy := hBx.below hby0
              have hby := below_step hbx hby0
              have KS := hid (same_rqs (w := wy) (A := none) (B := none) (c := 0) (d := 0) (n := 0) (rs := []) (ts := []) (Els.nil _ _ _) (Els.nil _ _ _) rfl rfl (by decide))
              clear KD hBx c1x c1
              go_wp2_with fail
              refine KS.out.mono ?_
              rintro e wz ⟨rfl, hbz⟩
              have hBz := hBy.below hbz
              have hbz := below_step hby hbz
              have hFz := hF
              have hAz := hAl
              clear KS hBy hby
              obtain ⟨ww, hww⟩ : ∃ ww, (s).waits = ww := ⟨_, rfl⟩
              have KW := hid (fun W (hW : Below wz.heap.size wz W) => waits_clw (hBz.pc.gro hW) hww)
              have c5 : wz.cell? ⟨db, 5, none⟩ = some (.bool ww) := by have := (hBz.pd.row.2 5 _ rfl).1; rw [← hww, ← hAz.waits]; exact this
              have k5 := fun W (hW : Below wz.heap.size wz W) => cell_on hW c5
              clear hww
              go_upto_region 25 with fail
              refine wp_region_noPanic ?_
              refine wp_region_held_drew (S := (fun W => Below wz.heap.size wz W)) (by kernel_rfl) ?_ (fun hHeld => ?_)
              · exact (Below.refl _ _).drew
              refine wpAnyH_take (i := 0) (oi := ?oi12) (v := ?v12) ?hi12 (by kernel_rfl) (by kernel_rfl) (by kernel_rfl) ?hQ12 ?hy12 (by assumption) ?hrest12
              case hi12 => (simp only [List.getElem?_toArray, List.getElem?_cons_zero]; try rfl)
              case hQ12 => exact fun _ _ _ h => h
              case hy12 =>
                refine Or.inl ⟨by rfl, ?_⟩
                (intro wq hSw; (try dsimp only at hSw); go_simp; try with_reducible rfl)
              (try simp only [Act.put, List.setIfInBounds_toArray, List.set_cons_zero, List.set_cons_succ])
              refine wpAnyH_take (i := 1) (oi := ?oi13) (v := ?v13) ?hi13 (by kernel_rfl) (by kernel_rfl) (by kernel_rfl) ?hQ13 ?hy13 (by assumption) ?hrest13
              case hi13 => (simp only [List.getElem?_toArray, List.getElem?_cons_succ, List.getElem?_cons_zero]; try rfl)
              case hQ13 => exact fun _ _ _ h => h
              case hy13 =>
                refine Or.inl ⟨by rfl, ?_⟩
                (intro wq hSw; (try dsimp only at hSw); go_simp; try with_reducible rfl)
              (try simp only [Act.put, List.setIfInBounds_toArray, List.set_cons_zero, List.set_cons_succ])
              refine wpAnyH_take (i := 2) (oi := ?oi14) (v := ?v14) ?hi14 (by kernel_rfl) (by kernel_rfl) (by kernel_rfl) ?hQ14 ?hy14 (by assumption) ?hrest14
              case hi14 => (simp only [List.getElem?_toArray, List.getElem?_cons_succ, List.getElem?_cons_zero]; try rfl)
              case hQ14 => exact fun _ _ _ h => h
              case hy14 =>
                refine Or.inl ⟨by rfl, ?_⟩
                (intro wq hSw; (try dsimp only at hSw); go_simp; try with_reducible rfl)
              (try simp only [Act.put, List.setIfInBounds_toArray, List.set_cons_zero, List.set_cons_succ])
              refine wpAnyH_take (i := 3) (oi := ?oi15) (v := ?v15) ?hi15 (by kernel_rfl) (by kernel_rfl) (by kernel_rfl) ?hQ15 ?hy15 (by assumption) ?hrest15
              case hi15 => (simp only [List.getElem?_toArray, List.getElem?_cons_succ, List.getElem?_cons_zero]; try rfl)
              case hQ15 => exact fun _ _ _ h => h
              case hy15 =>
                refine Or.inl ⟨by rfl, ?_⟩
                (intro wq hSw; (try dsimp only at hSw); go_simp; try with_reducible rfl)
              (try simp only [Act.put, List.setIfInBounds_toArray, List.set_cons_zero, List.set_cons_succ])
              refine wpAnyH_take (i := 5) (oi := ?oi16) (v := ?v16) ?hi16 (by kernel_rfl) (by kernel_rfl) (by kernel_rfl) ?hQ16 ?hy16 (by assumption) ?hrest16
              case hi16 => (simp only [List.getElem?_toArray, List.getElem?_cons_succ, List.getElem?_cons_zero]; try rfl)
              case hQ16 => exact fun _ _ _ h => h
              case hy16 =>
                refine Or.inl ⟨by rfl, ?_⟩
                (intro wq hSw; (try dsimp only at hSw); go_simp; try with_reducible rfl)
              (try simp only [Act.put, List.setIfInBounds_toArray, List.set_cons_zero, List.set_cons_succ])
              refine wpAnyH_take (i := 6) (oi := ?oi17) (v := ?v17) ?hi17 (by kernel_rfl) (by kernel_rfl) (by kernel_rfl) ?hQ17 ?hy17 (by assumption) ?hrest17
              case hi17 => (simp only [List.getElem?_toArray, List.getElem?_cons_succ, List.getElem?_cons_zero]; try rfl)
              case hQ17 => exact fun _ _ _ h => h
              case hy17 =>
                refine Or.inl ⟨by rfl, ?_⟩
                (intro wq hSw; (try dsimp only at hSw); go_simp; try with_reducible rfl)
              (try simp only [Act.put, List.setIfInBounds_toArray, List.set_cons_zero, List.set_cons_succ])
              refine wpAnyH_take (i := 7) (oi := ?oi18) (v := ?v18) ?hi18 (by kernel_rfl) (by kernel_rfl) (by kernel_rfl) ?hQ18 ?hy18 (by assumption) ?hrest18
              case hi18 => (simp only [List.getElem?_toArray, List.getElem?_cons_succ, List.getElem?_cons_zero]; try rfl)
              case hQ18 => exact fun _ _ _ h => h
              case hy18 =>
                refine Or.inl ⟨by rfl, ?_⟩
                (intro wq hSw; (try dsimp only at hSw); go_simp; try with_reducible rfl)
              (try simp only [Act.put, List.setIfInBounds_toArray, List.set_cons_zero, List.set_cons_succ])
              refine wpAnyH_take (i := 8) (oi := ?oi19) (v := ?v19) ?hi19 (by kernel_rfl) (by kernel_rfl) (by kernel_rfl) ?hQ19 ?hy19 (by assumption) ?hrest19
              case hi19 => (simp only [List.getElem?_toArray, List.getElem?_cons_succ, List.getElem?_cons_zero]; try rfl)
              case hQ19 => exact fun _ _ _ h => h
              case hy19 =>
                refine Or.inl ⟨by rfl, ?_⟩
                (intro wq hSw; (try dsimp only at hSw); go_simp; try with_reducible rfl)
              (try simp only [Act.put, List.setIfInBounds_toArray, List.set_cons_zero, List.set_cons_succ])
              refine wpAnyH_ready (rs := [4]) (by kernel_rfl) (by simp) ?_
              refine AllReadyH.cons (o := ?oi20) ?hi20 (fun K hK => ?hstep20) AllReadyH.nil
              case hi20 => (simp only [List.getElem?_toArray, List.getElem?_cons_succ, List.getElem?_cons_zero]; try rfl)
              go_simp
              (refine (KW.out _ hHeld).mono ?_; rintro e wx ⟨rfl, rfl⟩)
              refine hK.out _ _ hHeld (fun hHeld => ?_)
              clear hK K
              (try simp only [Act.put, List.setIfInBounds_toArray, List.set_cons_zero, List.set_cons_succ])
              refine wpAnyH_take (i := 9) (oi := ?oi21) (v := ?v21) ?hi21 (by kernel_rfl) (by kernel_rfl) (by kernel_rfl) ?hQ21 ?hy21 (by assumption) ?hrest21
              case hi21 => (simp only [List.getElem?_toArray, List.getElem?_cons_succ, List.getElem?_cons_zero]; try rfl)
              case hQ21 => exact fun _ _ _ h => h
              case hy21 =>
                refine Or.inl ⟨by rfl, ?_⟩
                (intro wq hSw; (try dsimp only at hSw); go_simp; try with_reducible rfl)
              (try simp only [Act.put, List.setIfInBounds_toArray, List.set_cons_zero, List.set_cons_succ])
              refine wpAnyH_take (i := 10) (oi := ?oi22) (v := ?v22) ?hi22 (by kernel_rfl) (by kernel_rfl) (by kernel_rfl) ?hQ22 ?hy22 (by assumption) ?hrest22
              case hi22 => (simp only [List.getElem?_toArray, List.getElem?_cons_succ, List.getElem?_cons_zero]; try rfl)
              case hQ22 => exact fun _ _ _ h => h
              case hy22 =>
                refine Or.inl ⟨by rfl, ?_⟩
                (intro wq hSw; (try dsimp only at hSw); go_simp; try with_reducible rfl)
              (try simp only [Act.put, List.setIfInBounds_toArray, List.set_cons_zero, List.set_cons_succ])
              refine wpAnyH_done (by kernel_rfl) ?_ _
              refine NoPanic.normal ?_
              go_wp2_with fail
              go_roundw
              case rel => exact ⟨k + 1, s, d, by omega, by go_num, hFz, hAz, hBz.below hHeld, below_step hbz hHeld⟩
              case measure => simp [RowKit.intOf]; omega
          by_cases e2 : z = 2
          · subst e2
            have c2 := fun W (hW : Below w.heap.size w W) => cell_on hW (show w.cell? ⟨(ad.add (k * 17)).block, (ad.add (k * 17)).off + 2, none⟩ = some (.int .i64 x.m.kind) from HC.out 2 _ rfl)
            have d2 := c2 _ hb
            have c3 := fun W (hW : Below w.heap.size w W) => cell_on hW (show w.cell? ⟨(ad.add (k * 17)).block, (ad.add (k * 17)).off + 3, none⟩ = some (.int .i64 x.m.frm) from HC.out 3 _ rfl)
            have d3 := c3 _ hb
            have c4 := fun W (hW : Below w.heap.size w W) => cell_on hW (show w.cell? ⟨(ad.add (k * 17)).block, (ad.add (k * 17)).off + 4, none⟩ = some (.int .i64 x.m.tto) from HC.out 4 _ rfl)
            have d4 := c4 _ hb
            have c5 := fun W (hW : Below w.heap.size w W) => cell_on hW (show w.cell? ⟨(ad.add (k * 17)).block, (ad.add (k * 17)).off + 5, none⟩ = some (.int .i64 x.m.view) from HC.out 5 _ rfl)
            have d5 := c5 _ hb
            have c6 := fun W (hW : Below w.heap.size w W) => cell_on hW (show w.cell? ⟨(ad.add (k * 17)).block, (ad.add (k * 17)).off + 6, none⟩ = some (.int .i64 x.m.num) from HC.out 6 _ rfl)
            have d6 := c6 _ hb
            have c7 := fun W (hW : Below w.heap.size w W) => cell_on hW (show w.cell? ⟨(ad.add (k * 17)).block, (ad.add (k * 17)).off + 7, none⟩ = some (.int .i64 x.m.commit) from HC.out 7 _ rfl)
            have d7 := c7 _ hb
            have c8 := fun W (hW : Below w.heap.size w W) => cell_on hW (show w.cell? ⟨(ad.add (k * 17)).block, (ad.add (k * 17)).off + 8, none⟩ = some (.int .i64 x.m.nonce) from HC.out 8 _ rfl)
            have d8 := c8 _ hb
            have c9 := fun W (hW : Below w.heap.size w W) => cell_on hW (show w.cell? ⟨(ad.add (k * 17)).block, (ad.add (k * 17)).off + 9, none⟩ = some (.int .i64 x.m.normal) from HC.out 9 _ rfl)
            have d9 := c9 _ hb
            have c10 := fun W (hW : Below w.heap.size w W) => cell_on hW (show w.cell? ⟨(ad.add (k * 17)).block, (ad.add (k * 17)).off + 10, none⟩ = some (.int .i64 x.m.client) from HC.out 10 _ rfl)
            have d10 := c10 _ hb
            have c11 := fun W (hW : Below w.heap.size w W) => cell_on hW (show w.cell? ⟨(ad.add (k * 17)).block, (ad.add (k * 17)).off + 11, none⟩ = some (.int .i64 x.m.req) from HC.out 11 _ rfl)
            have d11 := c11 _ hb
            have c12 := fun W (hW : Below w.heap.size w W) => cell_on hW (show w.cell? ⟨(ad.add (k * 17)).block, (ad.add (k * 17)).off + 12, none⟩ = some (.slice x.m.A x.m.body.length x.m.c) from HC.out 12 _ rfl)
            have d12 := c12 _ hb
            have c13 := fun W (hW : Below w.heap.size w W) => cell_on hW (show w.cell? ⟨(ad.add (k * 17)).block, (ad.add (k * 17)).off + 13, none⟩ = some (.bool x.m.has) from HC.out 13 _ rfl)
            have d13 := c13 _ hb
            have c14 := fun W (hW : Below w.heap.size w W) => cell_on hW (show w.cell? ⟨(ad.add (k * 17)).block, (ad.add (k * 17)).off + 14, none⟩ = some (.int .i64 x.m.start) from HC.out 14 _ rfl)
            have d14 := c14 _ hb
            have c15 := fun W (hW : Below w.heap.size w W) => cell_on hW (show w.cell? ⟨(ad.add (k * 17)).block, (ad.add (k * 17)).off + 15, none⟩ = some (.slice x.m.eA x.m.en x.m.ec) from HC.out 15 _ rfl)
            have d15 := c15 _ hb
            have c16 := fun W (hW : Below w.heap.size w W) => cell_on hW (show w.cell? ⟨(ad.add (k * 17)).block, (ad.add (k * 17)).off + 16, none⟩ = some (.slice x.m.kA x.m.kn x.m.kc) from HC.out 16 _ rfl)
            have d16 := c16 _ hb
            by_cases hm : mine s x.m
            · have KH := hid (handle_mine2 hB.pc x.m hm hF.1.2.2.2.2.2.2 (fun W hW => RM.out.below (hb.trans (gro_belowC hB.pc hwj hws hW))) (by omega))
              have HM := hid hm
              clear hm
              go_wp2_with fail
              refine KH.out.mono ?_
              rintro e wx ⟨V, kk, ⟨v3, rfl⟩, hC2, hG, hV⟩
              have hBx := hB.byC hC2 (by exact hG) (takes_c hV)
              have hbx := hb.trans (gro_belowC hB.pc hwj hws hG)
              have hFz := fine_takes hF HM.out V kk
              have hr := hF.1
              have KD := hid (handle_mine_d hBx.pd x.m ((al_mine hAl x.m).1 HM.out) (by rw [al_len hAl]; have h1 := hr.2.2.2.2.2.1; have h2 := hr.1; unfold okC at h2; omega) (fun W hW => RM.out.below (hbx.trans (gro_belowD hBx.pd hwd hbx.size hW))) (by omega))
              clear KH hr hV d2 d3 d4 d5 d6 d7 d8 d9 d10 d11 d12 d13 d14 d15 d16
              have d2 := c2 _ hbx
              have d3 := c3 _ hbx
              have d4 := c4 _ hbx
              have d5 := c5 _ hbx
              have d6 := c6 _ hbx
              have d7 := c7 _ hbx
              have d8 := c8 _ hbx
              have d9 := c9 _ hbx
              have d10 := c10 _ hbx
              have d11 := c11 _ hbx
              have d12 := c12 _ hbx
              have d13 := c13 _ hbx
              have d14 := c14 _ hbx
              have d15 := c15 _ hbx
              have d16 := c16 _ hbx
              clear c2 c3 c4 c5 c6 c7 c8 c9 c10 c11 c12 c13 c14 c15 c16
              go_wp2_with fail
              refine KD.out.mono ?_
              rintro e wz ⟨V2, kk2, A2, ac2, ⟨v4, rfl⟩, hD2, hG2, hl2, hV2⟩
              have hBz := hBx.byD hD2 hG2 (takes_d hV2 hl2)
              have hbz := hbx.trans (gro_belowD hBx.pd hwd hbx.size hG2)
              have hAz := takes_al hAl x.m V V2 A2 kk kk2 ac2
              clear KD hD2 hG2 hC2 hG hBx d2 d3 d4 d5 d6 d7 d8 d9 d10 d11 d12 d13 d14 d15 d16
              obtain ⟨ww, hww⟩ : ∃ ww, (takes s x.m V kk).waits = ww := ⟨_, rfl⟩
              have KW := hid (fun W (hW : Below wz.heap.size wz W) => waits_clw (hBz.pc.gro hW) hww)
              have c5 : wz.cell? ⟨db, 5, none⟩ = some (.bool ww) := by have := (hBz.pd.row.2 5 _ rfl).1; rw [← hww, ← hAz.waits]; exact this
              have k5 := fun W (hW : Below wz.heap.size wz W) => cell_on hW c5
              clear hww
              go_upto_region 25 with fail
              refine wp_region_noPanic ?_
              refine wp_region_held_drew (S := (fun W => Below wz.heap.size wz W)) (by kernel_rfl) ?_ (fun hHeld => ?_)
              · exact (Below.refl _ _).drew
              refine wpAnyH_take (i := 0) (oi := ?oi23) (v := ?v23) ?hi23 (by kernel_rfl) (by kernel_rfl) (by kernel_rfl) ?hQ23 ?hy23 (by assumption) ?hrest23
              case hi23 => (simp only [List.getElem?_toArray, List.getElem?_cons_zero]; try rfl)
              case hQ23 => exact fun _ _ _ h => h
              case hy23 =>
                refine Or.inl ⟨by rfl, ?_⟩
                (intro wq hSw; (try dsimp only at hSw); go_simp; try with_reducible rfl)
              (try simp only [Act.put, List.setIfInBounds_toArray, List.set_cons_zero, List.set_cons_succ])
              refine wpAnyH_take (i := 1) (oi := ?oi24) (v := ?v24) ?hi24 (by kernel_rfl) (by kernel_rfl) (by kernel_rfl) ?hQ24 ?hy24 (by assumption) ?hrest24
              case hi24 => (simp only [List.getElem?_toArray, List.getElem?_cons_succ, List.getElem?_cons_zero]; try rfl)
              case hQ24 => exact fun _ _ _ h => h
              case hy24 =>
                refine Or.inl ⟨by rfl, ?_⟩
                (intro wq hSw; (try dsimp only at hSw); go_simp; try with_reducible rfl)
              (try simp only [Act.put, List.setIfInBounds_toArray, List.set_cons_zero, List.set_cons_succ])
              refine wpAnyH_take (i := 2) (oi := ?oi25) (v := ?v25) ?hi25 (by kernel_rfl) (by kernel_rfl) (by kernel_rfl) ?hQ25 ?hy25 (by assumption) ?hrest25
              case hi25 => (simp only [List.getElem?_toArray, List.getElem?_cons_succ, List.getElem?_cons_zero]; try rfl)
              case hQ25 => exact fun _ _ _ h => h
              case hy25 =>
                refine Or.inl ⟨by rfl, ?_⟩
                (intro wq hSw; (try dsimp only at hSw); go_simp; try with_reducible rfl)
              (try simp only [Act.put, List.setIfInBounds_toArray, List.set_cons_zero, List.set_cons_succ])
              refine wpAnyH_take (i := 3) (oi := ?oi26) (v := ?v26) ?hi26 (by kernel_rfl) (by kernel_rfl) (by kernel_rfl) ?hQ26 ?hy26 (by assumption) ?hrest26
              case hi26 => (simp only [List.getElem?_toArray, List.getElem?_cons_succ, List.getElem?_cons_zero]; try rfl)
              case hQ26 => exact fun _ _ _ h => h
              case hy26 =>
                refine Or.inl ⟨by rfl, ?_⟩
                (intro wq hSw; (try dsimp only at hSw); go_simp; try with_reducible rfl)
              (try simp only [Act.put, List.setIfInBounds_toArray, List.set_cons_zero, List.set_cons_succ])
              refine wpAnyH_take (i := 5) (oi := ?oi27) (v := ?v27) ?hi27 (by kernel_rfl) (by kernel_rfl) (by kernel_rfl) ?hQ27 ?hy27 (by assumption) ?hrest27
              case hi27 => (simp only [List.getElem?_toArray, List.getElem?_cons_succ, List.getElem?_cons_zero]; try rfl)
              case hQ27 => exact fun _ _ _ h => h
              case hy27 =>
                refine Or.inl ⟨by rfl, ?_⟩
                (intro wq hSw; (try dsimp only at hSw); go_simp; try with_reducible rfl)
              (try simp only [Act.put, List.setIfInBounds_toArray, List.set_cons_zero, List.set_cons_succ])
              refine wpAnyH_take (i := 6) (oi := ?oi28) (v := ?v28) ?hi28 (by kernel_rfl) (by kernel_rfl) (by kernel_rfl) ?hQ28 ?hy28 (by assumption) ?hrest28
              case hi28 => (simp only [List.getElem?_toArray, List.getElem?_cons_succ, List.getElem?_cons_zero]; try rfl)
              case hQ28 => exact fun _ _ _ h => h
              case hy28 =>
                refine Or.inl ⟨by rfl, ?_⟩
                (intro wq hSw; (try dsimp only at hSw); go_simp; try with_reducible rfl)
              (try simp only [Act.put, List.setIfInBounds_toArray, List.set_cons_zero, List.set_cons_succ])
              refine wpAnyH_take (i := 7) (oi := ?oi29) (v := ?v29) ?hi29 (by kernel_rfl) (by kernel_rfl) (by kernel_rfl) ?hQ29 ?hy29 (by assumption) ?hrest29
              case hi29 => (simp only [List.getElem?_toArray, List.getElem?_cons_succ, List.getElem?_cons_zero]; try rfl)
              case hQ29 => exact fun _ _ _ h => h
              case hy29 =>
                refine Or.inl ⟨by rfl, ?_⟩
                (intro wq hSw; (try dsimp only at hSw); go_simp; try with_reducible rfl)
              (try simp only [Act.put, List.setIfInBounds_toArray, List.set_cons_zero, List.set_cons_succ])
              refine wpAnyH_take (i := 8) (oi := ?oi30) (v := ?v30) ?hi30 (by kernel_rfl) (by kernel_rfl) (by kernel_rfl) ?hQ30 ?hy30 (by assumption) ?hrest30
              case hi30 => (simp only [List.getElem?_toArray, List.getElem?_cons_succ, List.getElem?_cons_zero]; try rfl)
              case hQ30 => exact fun _ _ _ h => h
              case hy30 =>
                refine Or.inl ⟨by rfl, ?_⟩
                (intro wq hSw; (try dsimp only at hSw); go_simp; try with_reducible rfl)
              (try simp only [Act.put, List.setIfInBounds_toArray, List.set_cons_zero, List.set_cons_succ])
              refine wpAnyH_ready (rs := [4]) (by kernel_rfl) (by simp) ?_
              refine AllReadyH.cons (o := ?oi31) ?hi31 (fun K hK => ?hstep31) AllReadyH.nil
              case hi31 => (simp only [List.getElem?_toArray, List.getElem?_cons_succ, List.getElem?_cons_zero]; try rfl)
              go_simp
              (refine (KW.out _ hHeld).mono ?_; rintro e wx ⟨rfl, rfl⟩)
              refine hK.out _ _ hHeld (fun hHeld => ?_)
              clear hK K
              (try simp only [Act.put, List.setIfInBounds_toArray, List.set_cons_zero, List.set_cons_succ])
              refine wpAnyH_take (i := 9) (oi := ?oi32) (v := ?v32) ?hi32 (by kernel_rfl) (by kernel_rfl) (by kernel_rfl) ?hQ32 ?hy32 (by assumption) ?hrest32
              case hi32 => (simp only [List.getElem?_toArray, List.getElem?_cons_succ, List.getElem?_cons_zero]; try rfl)
              case hQ32 => exact fun _ _ _ h => h
              case hy32 =>
                refine Or.inl ⟨by rfl, ?_⟩
                (intro wq hSw; (try dsimp only at hSw); go_simp; try with_reducible rfl)
              (try simp only [Act.put, List.setIfInBounds_toArray, List.set_cons_zero, List.set_cons_succ])
              refine wpAnyH_take (i := 10) (oi := ?oi33) (v := ?v33) ?hi33 (by kernel_rfl) (by kernel_rfl) (by kernel_rfl) ?hQ33 ?hy33 (by assumption) ?hrest33
              case hi33 => (simp only [List.getElem?_toArray, List.getElem?_cons_succ, List.getElem?_cons_zero]; try rfl)
              case hQ33 => exact fun _ _ _ h => h
              case hy33 =>
                refine Or.inl ⟨by rfl, ?_⟩
                (intro wq hSw; (try dsimp only at hSw); go_simp; try with_reducible rfl)
              (try simp only [Act.put, List.setIfInBounds_toArray, List.set_cons_zero, List.set_cons_succ])
              refine wpAnyH_done (by kernel_rfl) ?_ _
              refine NoPanic.normal ?_
              go_wp2_with fail
              go_roundw
              case rel => exact ⟨k + 1, takes s x.m V kk, takesD d x.m V2 kk2 A2 ac2, by omega, by go_num, hFz, hAz, hBz.below hHeld, below_step hbz hHeld⟩
              case measure => simp [RowKit.intOf]; omega

            · have KH := hid (handle_not hB.pc x.m hm)
              have HM := hid hm
              clear hm
              go_wp2_with fail
              refine KH.out.mono ?_
              rintro e wx ⟨⟨v3, rfl⟩, hC2, hG⟩
              have hBx := hB.byC hC2 hG (fun k hk => .inl hk)
              have hbx := hb.trans (gro_belowC hB.pc hwj hws hG)
              have KD := hid (handle_not_d hBx.pd x.m (fun e => HM.out ((al_mine hAl x.m).2 e)))
              clear KH d2 d3 d4 d5 d6 d7 d8 d9 d10 d11 d12 d13 d14 d15 d16
              have d2 := c2 _ hbx
              have d3 := c3 _ hbx
              have d4 := c4 _ hbx
              have d5 := c5 _ hbx
              have d6 := c6 _ hbx
              have d7 := c7 _ hbx
              have d8 := c8 _ hbx
              have d9 := c9 _ hbx
              have d10 := c10 _ hbx
              have d11 := c11 _ hbx
              have d12 := c12 _ hbx
              have d13 := c13 _ hbx
              have d14 := c14 _ hbx
              have d15 := c15 _ hbx
              have d16 := c16 _ hbx
              clear c2 c3 c4 c5 c6 c7 c8 c9 c10 c11 c12 c13 c14 c15 c16
              go_wp2_with fail
              refine KD.out.mono ?_
              rintro e wz ⟨⟨v4, rfl⟩, hbz0⟩
              have hBz := hBx.below hbz0
              have hbz := below_step hbx hbz0
              have hFz := hF
              have hAz := hAl
              clear KD hC2 hG hBx d2 d3 d4 d5 d6 d7 d8 d9 d10 d11 d12 d13 d14 d15 d16
              obtain ⟨ww, hww⟩ : ∃ ww, (s).waits = ww := ⟨_, rfl⟩
              have KW := hid (fun W (hW : Below wz.heap.size wz W) => waits_clw (hBz.pc.gro hW) hww)
              have c5 : wz.cell? ⟨db, 5, none⟩ = some (.bool ww) := by have := (hBz.pd.row.2 5 _ rfl).1; rw [← hww, ← hAz.waits]; exact this
              have k5 := fun W (hW : Below wz.heap.size wz W) => cell_on hW c5
              clear hww
              go_upto_region 25 with fail
              refine wp_region_noPanic ?_
              refine wp_region_held_drew (S := (fun W => Below wz.heap.size wz W)) (by kernel_rfl) ?_ (fun hHeld => ?_)
              · exact (Below.refl _ _).drew
              refine wpAnyH_take (i := 0) (oi := ?oi34) (v := ?v34) ?hi34 (by kernel_rfl) (by kernel_rfl) (by kernel_rfl) ?hQ34 ?hy34 (by assumption) ?hrest34
              case hi34 => (simp only [List.getElem?_toArray, List.getElem?_cons_zero]; try rfl)
              case hQ34 => exact fun _ _ _ h => h
              case hy34 =>
                refine Or.inl ⟨by rfl, ?_⟩
                (intro wq hSw; (try dsimp only at hSw); go_simp; try with_reducible rfl)
              (try simp only [Act.put, List.setIfInBounds_toArray, List.set_cons_zero, List.set_cons_succ])
              refine wpAnyH_take (i := 1) (oi := ?oi35) (v := ?v35) ?hi35 (by kernel_rfl) (by kernel_rfl) (by kernel_rfl) ?hQ35 ?hy35 (by assumption) ?hrest35
              case hi35 => (simp only [List.getElem?_toArray, List.getElem?_cons_succ, List.getElem?_cons_zero]; try rfl)
              case hQ35 => exact fun _ _ _ h => h
              case hy35 =>
                refine Or.inl ⟨by rfl, ?_⟩
                (intro wq hSw; (try dsimp only at hSw); go_simp; try with_reducible rfl)
              (try simp only [Act.put, List.setIfInBounds_toArray, List.set_cons_zero, List.set_cons_succ])
              refine wpAnyH_take (i := 2) (oi := ?oi36) (v := ?v36) ?hi36 (by kernel_rfl) (by kernel_rfl) (by kernel_rfl) ?hQ36 ?hy36 (by assumption) ?hrest36
              case hi36 => (simp only [List.getElem?_toArray, List.getElem?_cons_succ, List.getElem?_cons_zero]; try rfl)
              case hQ36 => exact fun _ _ _ h => h
              case hy36 =>
                refine Or.inl ⟨by rfl, ?_⟩
                (intro wq hSw; (try dsimp only at hSw); go_simp; try with_reducible rfl)
              (try simp only [Act.put, List.setIfInBounds_toArray, List.set_cons_zero, List.set_cons_succ])
              refine wpAnyH_take (i := 3) (oi := ?oi37) (v := ?v37) ?hi37 (by kernel_rfl) (by kernel_rfl) (by kernel_rfl) ?hQ37 ?hy37 (by assumption) ?hrest37
              case hi37 => (simp only [List.getElem?_toArray, List.getElem?_cons_succ, List.getElem?_cons_zero]; try rfl)
              case hQ37 => exact fun _ _ _ h => h
              case hy37 =>
                refine Or.inl ⟨by rfl, ?_⟩
                (intro wq hSw; (try dsimp only at hSw); go_simp; try with_reducible rfl)
              (try simp only [Act.put, List.setIfInBounds_toArray, List.set_cons_zero, List.set_cons_succ])
              refine wpAnyH_take (i := 5) (oi := ?oi38) (v := ?v38) ?hi38 (by kernel_rfl) (by kernel_rfl) (by kernel_rfl) ?hQ38 ?hy38 (by assumption) ?hrest38
              case hi38 => (simp only [List.getElem?_toArray, List.getElem?_cons_succ, List.getElem?_cons_zero]; try rfl)
              case hQ38 => exact fun _ _ _ h => h
              case hy38 =>
                refine Or.inl ⟨by rfl, ?_⟩
                (intro wq hSw; (try dsimp only at hSw); go_simp; try with_reducible rfl)
              (try simp only [Act.put, List.setIfInBounds_toArray, List.set_cons_zero, List.set_cons_succ])
              refine wpAnyH_take (i := 6) (oi := ?oi39) (v := ?v39) ?hi39 (by kernel_rfl) (by kernel_rfl) (by kernel_rfl) ?hQ39 ?hy39 (by assumption) ?hrest39
              case hi39 => (simp only [List.getElem?_toArray, List.getElem?_cons_succ, List.getElem?_cons_zero]; try rfl)
              case hQ39 => exact fun _ _ _ h => h
              case hy39 =>
                refine Or.inl ⟨by rfl, ?_⟩
                (intro wq hSw; (try dsimp only at hSw); go_simp; try with_reducible rfl)
              (try simp only [Act.put, List.setIfInBounds_toArray, List.set_cons_zero, List.set_cons_succ])
              refine wpAnyH_take (i := 7) (oi := ?oi40) (v := ?v40) ?hi40 (by kernel_rfl) (by kernel_rfl) (by kernel_rfl) ?hQ40 ?hy40 (by assumption) ?hrest40
              case hi40 => (simp only [List.getElem?_toArray, List.getElem?_cons_succ, List.getElem?_cons_zero]; try rfl)
              case hQ40 => exact fun _ _ _ h => h
              case hy40 =>
                refine Or.inl ⟨by rfl, ?_⟩
                (intro wq hSw; (try dsimp only at hSw); go_simp; try with_reducible rfl)
              (try simp only [Act.put, List.setIfInBounds_toArray, List.set_cons_zero, List.set_cons_succ])
              refine wpAnyH_take (i := 8) (oi := ?oi41) (v := ?v41) ?hi41 (by kernel_rfl) (by kernel_rfl) (by kernel_rfl) ?hQ41 ?hy41 (by assumption) ?hrest41
              case hi41 => (simp only [List.getElem?_toArray, List.getElem?_cons_succ, List.getElem?_cons_zero]; try rfl)
              case hQ41 => exact fun _ _ _ h => h
              case hy41 =>
                refine Or.inl ⟨by rfl, ?_⟩
                (intro wq hSw; (try dsimp only at hSw); go_simp; try with_reducible rfl)
              (try simp only [Act.put, List.setIfInBounds_toArray, List.set_cons_zero, List.set_cons_succ])
              refine wpAnyH_ready (rs := [4]) (by kernel_rfl) (by simp) ?_
              refine AllReadyH.cons (o := ?oi42) ?hi42 (fun K hK => ?hstep42) AllReadyH.nil
              case hi42 => (simp only [List.getElem?_toArray, List.getElem?_cons_succ, List.getElem?_cons_zero]; try rfl)
              go_simp
              (refine (KW.out _ hHeld).mono ?_; rintro e wx ⟨rfl, rfl⟩)
              refine hK.out _ _ hHeld (fun hHeld => ?_)
              clear hK K
              (try simp only [Act.put, List.setIfInBounds_toArray, List.set_cons_zero, List.set_cons_succ])
              refine wpAnyH_take (i := 9) (oi := ?oi43) (v := ?v43) ?hi43 (by kernel_rfl) (by kernel_rfl) (by kernel_rfl) ?hQ43 ?hy43 (by assumption) ?hrest43
              case hi43 => (simp only [List.getElem?_toArray, List.getElem?_cons_succ, List.getElem?_cons_zero]; try rfl)
              case hQ43 => exact fun _ _ _ h => h
              case hy43 =>
                refine Or.inl ⟨by rfl, ?_⟩
                (intro wq hSw; (try dsimp only at hSw); go_simp; try with_reducible rfl)
              (try simp only [Act.put, List.setIfInBounds_toArray, List.set_cons_zero, List.set_cons_succ])
              refine wpAnyH_take (i := 10) (oi := ?oi44) (v := ?v44) ?hi44 (by kernel_rfl) (by kernel_rfl) (by kernel_rfl) ?hQ44 ?hy44 (by assumption) ?hrest44
              case hi44 => (simp only [List.getElem?_toArray, List.getElem?_cons_succ, List.getElem?_cons_zero]; try rfl)
              case hQ44 => exact fun _ _ _ h => h
              case hy44 =>
                refine Or.inl ⟨by rfl, ?_⟩
                (intro wq hSw; (try dsimp only at hSw); go_simp; try with_reducible rfl)
              (try simp only [Act.put, List.setIfInBounds_toArray, List.set_cons_zero, List.set_cons_succ])
              refine wpAnyH_done (by kernel_rfl) ?_ _
              refine NoPanic.normal ?_
              go_wp2_with fail
              go_roundw
              case rel => exact ⟨k + 1, s, d, by omega, by go_num, hFz, hAz, hBz.below hHeld, below_step hbz hHeld⟩
              case measure => simp [RowKit.intOf]; omega
          by_cases e3 : z = 3
          · subst e3
            cases hans : s.ans with
            | nil =>
              have hand := al_nil hAl hans
              have KT := hid (takec_none hB.pc hans)
              go_wp2_with fail
              refine KT.out.mono ?_
              rintro e wx ⟨rfl, hC2, hG⟩
              have hBx := hB.byC hC2 hG (fun k hk => .inl hk)
              have hbx := hb.trans (gro_belowC hB.pc hwj hws hG)
              have KD := hid (take_none_d hBx.pd hand)
              have cv1 : ∀ W, (convert 29 9 (.slice none 0 0)).run Try.prog W = .ok (.string (str [])) W := fun W => conv_bs (P := Try.prog) (w := W) (l := []) Try.underlying29 Try.underlying5 Try.underlying9 (Rd.nil W none) 0
              have se := str_eq []
              clear KT
              go_wp2_with fail
              refine KD.out.mono ?_
              rintro e wz ⟨rfl, rfl⟩
              have hBz := hBx
              have hbz := hbx
              have hFz := hF
              have hAz := hAl
              clear KD hC2 hG hBx
              obtain ⟨ww, hww⟩ : ∃ ww, (s).waits = ww := ⟨_, rfl⟩
              have KW := hid (fun W (hW : Below wz.heap.size wz W) => waits_clw (hBz.pc.gro hW) hww)
              have c5 : wz.cell? ⟨db, 5, none⟩ = some (.bool ww) := by have := (hBz.pd.row.2 5 _ rfl).1; rw [← hww, ← hAz.waits]; exact this
              have k5 := fun W (hW : Below wz.heap.size wz W) => cell_on hW c5
              clear hww
              go_upto_region 25 with fail
              refine wp_region_noPanic ?_
              refine wp_region_held_drew (S := (fun W => Below wz.heap.size wz W)) (by kernel_rfl) ?_ (fun hHeld => ?_)
              · exact (Below.refl _ _).drew
              refine wpAnyH_take (i := 0) (oi := ?oi45) (v := ?v45) ?hi45 (by kernel_rfl) (by kernel_rfl) (by kernel_rfl) ?hQ45 ?hy45 (by assumption) ?hrest45
              case hi45 => (simp only [List.getElem?_toArray, List.getElem?_cons_zero]; try rfl)
              case hQ45 => exact fun _ _ _ h => h
              case hy45 =>
                refine Or.inl ⟨by rfl, ?_⟩
                (intro wq hSw; (try dsimp only at hSw); go_simp; try with_reducible rfl)
              (try simp only [Act.put, List.setIfInBounds_toArray, List.set_cons_zero, List.set_cons_succ])
              refine wpAnyH_take (i := 1) (oi := ?oi46) (v := ?v46) ?hi46 (by kernel_rfl) (by kernel_rfl) (by kernel_rfl) ?hQ46 ?hy46 (by assumption) ?hrest46
              case hi46 => (simp only [List.getElem?_toArray, List.getElem?_cons_succ, List.getElem?_cons_zero]; try rfl)
              case hQ46 => exact fun _ _ _ h => h
              case hy46 =>
                refine Or.inl ⟨by rfl, ?_⟩
                (intro wq hSw; (try dsimp only at hSw); go_simp; try with_reducible rfl)
              (try simp only [Act.put, List.setIfInBounds_toArray, List.set_cons_zero, List.set_cons_succ])
              refine wpAnyH_take (i := 2) (oi := ?oi47) (v := ?v47) ?hi47 (by kernel_rfl) (by kernel_rfl) (by kernel_rfl) ?hQ47 ?hy47 (by assumption) ?hrest47
              case hi47 => (simp only [List.getElem?_toArray, List.getElem?_cons_succ, List.getElem?_cons_zero]; try rfl)
              case hQ47 => exact fun _ _ _ h => h
              case hy47 =>
                refine Or.inl ⟨by rfl, ?_⟩
                (intro wq hSw; (try dsimp only at hSw); go_simp; try with_reducible rfl)
              (try simp only [Act.put, List.setIfInBounds_toArray, List.set_cons_zero, List.set_cons_succ])
              refine wpAnyH_take (i := 3) (oi := ?oi48) (v := ?v48) ?hi48 (by kernel_rfl) (by kernel_rfl) (by kernel_rfl) ?hQ48 ?hy48 (by assumption) ?hrest48
              case hi48 => (simp only [List.getElem?_toArray, List.getElem?_cons_succ, List.getElem?_cons_zero]; try rfl)
              case hQ48 => exact fun _ _ _ h => h
              case hy48 =>
                refine Or.inl ⟨by rfl, ?_⟩
                (intro wq hSw; (try dsimp only at hSw); go_simp; try with_reducible rfl)
              (try simp only [Act.put, List.setIfInBounds_toArray, List.set_cons_zero, List.set_cons_succ])
              refine wpAnyH_take (i := 5) (oi := ?oi49) (v := ?v49) ?hi49 (by kernel_rfl) (by kernel_rfl) (by kernel_rfl) ?hQ49 ?hy49 (by assumption) ?hrest49
              case hi49 => (simp only [List.getElem?_toArray, List.getElem?_cons_succ, List.getElem?_cons_zero]; try rfl)
              case hQ49 => exact fun _ _ _ h => h
              case hy49 =>
                refine Or.inl ⟨by rfl, ?_⟩
                (intro wq hSw; (try dsimp only at hSw); go_simp; try with_reducible rfl)
              (try simp only [Act.put, List.setIfInBounds_toArray, List.set_cons_zero, List.set_cons_succ])
              refine wpAnyH_take (i := 6) (oi := ?oi50) (v := ?v50) ?hi50 (by kernel_rfl) (by kernel_rfl) (by kernel_rfl) ?hQ50 ?hy50 (by assumption) ?hrest50
              case hi50 => (simp only [List.getElem?_toArray, List.getElem?_cons_succ, List.getElem?_cons_zero]; try rfl)
              case hQ50 => exact fun _ _ _ h => h
              case hy50 =>
                refine Or.inl ⟨by rfl, ?_⟩
                (intro wq hSw; (try dsimp only at hSw); go_simp; try with_reducible rfl)
              (try simp only [Act.put, List.setIfInBounds_toArray, List.set_cons_zero, List.set_cons_succ])
              refine wpAnyH_take (i := 7) (oi := ?oi51) (v := ?v51) ?hi51 (by kernel_rfl) (by kernel_rfl) (by kernel_rfl) ?hQ51 ?hy51 (by assumption) ?hrest51
              case hi51 => (simp only [List.getElem?_toArray, List.getElem?_cons_succ, List.getElem?_cons_zero]; try rfl)
              case hQ51 => exact fun _ _ _ h => h
              case hy51 =>
                refine Or.inl ⟨by rfl, ?_⟩
                (intro wq hSw; (try dsimp only at hSw); go_simp; try with_reducible rfl)
              (try simp only [Act.put, List.setIfInBounds_toArray, List.set_cons_zero, List.set_cons_succ])
              refine wpAnyH_take (i := 8) (oi := ?oi52) (v := ?v52) ?hi52 (by kernel_rfl) (by kernel_rfl) (by kernel_rfl) ?hQ52 ?hy52 (by assumption) ?hrest52
              case hi52 => (simp only [List.getElem?_toArray, List.getElem?_cons_succ, List.getElem?_cons_zero]; try rfl)
              case hQ52 => exact fun _ _ _ h => h
              case hy52 =>
                refine Or.inl ⟨by rfl, ?_⟩
                (intro wq hSw; (try dsimp only at hSw); go_simp; try with_reducible rfl)
              (try simp only [Act.put, List.setIfInBounds_toArray, List.set_cons_zero, List.set_cons_succ])
              refine wpAnyH_ready (rs := [4]) (by kernel_rfl) (by simp) ?_
              refine AllReadyH.cons (o := ?oi53) ?hi53 (fun K hK => ?hstep53) AllReadyH.nil
              case hi53 => (simp only [List.getElem?_toArray, List.getElem?_cons_succ, List.getElem?_cons_zero]; try rfl)
              go_simp
              (refine (KW.out _ hHeld).mono ?_; rintro e wx ⟨rfl, rfl⟩)
              refine hK.out _ _ hHeld (fun hHeld => ?_)
              clear hK K
              (try simp only [Act.put, List.setIfInBounds_toArray, List.set_cons_zero, List.set_cons_succ])
              refine wpAnyH_take (i := 9) (oi := ?oi54) (v := ?v54) ?hi54 (by kernel_rfl) (by kernel_rfl) (by kernel_rfl) ?hQ54 ?hy54 (by assumption) ?hrest54
              case hi54 => (simp only [List.getElem?_toArray, List.getElem?_cons_succ, List.getElem?_cons_zero]; try rfl)
              case hQ54 => exact fun _ _ _ h => h
              case hy54 =>
                refine Or.inl ⟨by rfl, ?_⟩
                (intro wq hSw; (try dsimp only at hSw); go_simp; try with_reducible rfl)
              (try simp only [Act.put, List.setIfInBounds_toArray, List.set_cons_zero, List.set_cons_succ])
              refine wpAnyH_take (i := 10) (oi := ?oi55) (v := ?v55) ?hi55 (by kernel_rfl) (by kernel_rfl) (by kernel_rfl) ?hQ55 ?hy55 (by assumption) ?hrest55
              case hi55 => (simp only [List.getElem?_toArray, List.getElem?_cons_succ, List.getElem?_cons_zero]; try rfl)
              case hQ55 => exact fun _ _ _ h => h
              case hy55 =>
                refine Or.inl ⟨by rfl, ?_⟩
                (intro wq hSw; (try dsimp only at hSw); go_simp; try with_reducible rfl)
              (try simp only [Act.put, List.setIfInBounds_toArray, List.set_cons_zero, List.set_cons_succ])
              refine wpAnyH_done (by kernel_rfl) ?_ _
              refine NoPanic.normal ?_
              go_wp2_with fail
              go_roundw
              case rel => exact ⟨k + 1, s, d, by omega, by go_num, hFz, hAz, hBz.below hHeld, below_step hbz hHeld⟩
              case measure => simp [RowKit.intOf]; omega
            | cons an l =>
              obtain ⟨bn, l2, hand, hn2, hl2, hal2⟩ := al_ans hAl hans
              have hac := hB.pc.ans an (by rw [hans]; exact List.mem_cons_self)
              have had := hB.pd.ansApart (a := bn) (by rw [hand]; exact List.mem_cons_self)
              have hsd := sl_rd (hB.pd.own.2 bn (by rw [hand]; exact List.mem_cons_self) (bn.val, bn.l) (by simp [anEl])).1
              have hdb : ∀ k, At bn.V bn.l k → k ≠ cb ∧ k ≠ s.xc := fun k hk => by
                have h1 : DB db d k := .inr (.inr (.inr ⟨bn, by rw [hand]; exact List.mem_cons_self, hk⟩))
                exact ⟨fun e => hB.apt k (.inl e) h1, fun e => hB.apt k (.inr (.inr (.inl e))) h1⟩
              have hcb : ∀ k, At an.V an.l k → k ≠ db ∧ k ≠ d.lb db := fun k hk => by
                have h1 : CB cb s k := .inr (.inr (.inr (.inr ⟨an, by rw [hans]; exact List.mem_cons_self, hk⟩)))
                exact ⟨fun e => hB.apt k h1 (.inl e), fun e => hB.apt k h1 (.inr (.inl e))⟩
              have KT := hid (takec_some hB.pc hans)
              go_wp2_with fail
              refine KT.out.mono ?_
              rintro e wx ⟨rfl, hC2, hG⟩
              have hBx := hB.byC hC2 hG (fun k hk => .inl (take_c hans k hk))
              have hbx := hb.trans (gro_belowC hB.pc hwj hws hG)
              have hFz := fine_take hF hans
              have hrx := hG.rd hac.1 hac.2
              have hsx := rd_other hsd hG hdb
              have hr := hF.1
              have KD := hid (take_some_d hBx.pd hand (by rw [al_len hAl]; have h1 := hr.2.2.2.2.2.1; have h2 := hr.1; unfold okC at h2; omega))
              clear KT hr hac hsd
              go_wp2_with fail
              refine KD.out.mono ?_
              rintro e wz ⟨A2, ac2, rfl, hD2, hG2, hlb2⟩
              have hBz := hBx.byD hD2 hG2 (take_d hand hlb2)
              have hbz := hbx.trans (gro_belowD hBx.pd hwd hbx.size hG2)
              have hAz : Alike { s with ans := l } { d with aA := A2, ac := ac2, ans := l2 } := ⟨hAl.f, hAl.number, hAl.again, hAl.room, hAl.count, hAl.waits, hAl.body, hAl.ticks, hAl.view, hal2⟩
              have hrz := rd_other hrx hG2 hcb
              have hsz := rd_other hsx hG2 had
              clear KD hD2 hG2 hC2 hG hBx hrx hsx hcb had hdb hlb2 hand hans
              obtain ⟨yn, yV, yc, yl⟩ := bn
              dsimp only at hn2 hl2 hsz
              subst hn2
              subst hl2
              have cv1 := conv_bs (P := Try.prog) Try.underlying29 Try.underlying5 Try.underlying9 hrz an.c
              have cv2 := conv_bs (P := Try.prog) Try.underlying29 Try.underlying5 Try.underlying9 hsz yc
              have se := str_eq an.l
              obtain ⟨ww, hww⟩ : ∃ ww, ({ s with ans := l }).waits = ww := ⟨_, rfl⟩
              have KW := hid (fun W (hW : Below wz.heap.size wz W) => waits_clw (hBz.pc.gro hW) hww)
              have c5 : wz.cell? ⟨db, 5, none⟩ = some (.bool ww) := by have := (hBz.pd.row.2 5 _ rfl).1; rw [← hww, ← hAz.waits]; exact this
              have k5 := fun W (hW : Below wz.heap.size wz W) => cell_on hW c5
              clear hww
              go_upto_region 25 with fail
              refine wp_region_noPanic ?_
              refine wp_region_held_drew (S := (fun W => Below wz.heap.size wz W)) (by kernel_rfl) ?_ (fun hHeld => ?_)
              · exact (Below.refl _ _).drew
              refine wpAnyH_take (i := 0) (oi := ?oi56) (v := ?v56) ?hi56 (by kernel_rfl) (by kernel_rfl) (by kernel_rfl) ?hQ56 ?hy56 (by assumption) ?hrest56
              case hi56 => (simp only [List.getElem?_toArray, List.getElem?_cons_zero]; try rfl)
              case hQ56 => exact fun _ _ _ h => h
              case hy56 =>
                refine Or.inl ⟨by rfl, ?_⟩
                (intro wq hSw; (try dsimp only at hSw); go_simp; try with_reducible rfl)
              (try simp only [Act.put, List.setIfInBounds_toArray, List.set_cons_zero, List.set_cons_succ])
              refine wpAnyH_take (i := 1) (oi := ?oi57) (v := ?v57) ?hi57 (by kernel_rfl) (by kernel_rfl) (by kernel_rfl) ?hQ57 ?hy57 (by assumption) ?hrest57
              case hi57 => (simp only [List.getElem?_toArray, List.getElem?_cons_succ, List.getElem?_cons_zero]; try rfl)
              case hQ57 => exact fun _ _ _ h => h
              case hy57 =>
                refine Or.inl ⟨by rfl, ?_⟩
                (intro wq hSw; (try dsimp only at hSw); go_simp; try with_reducible rfl)
              (try simp only [Act.put, List.setIfInBounds_toArray, List.set_cons_zero, List.set_cons_succ])
              refine wpAnyH_take (i := 2) (oi := ?oi58) (v := ?v58) ?hi58 (by kernel_rfl) (by kernel_rfl) (by kernel_rfl) ?hQ58 ?hy58 (by assumption) ?hrest58
              case hi58 => (simp only [List.getElem?_toArray, List.getElem?_cons_succ, List.getElem?_cons_zero]; try rfl)
              case hQ58 => exact fun _ _ _ h => h
              case hy58 =>
                refine Or.inl ⟨by rfl, ?_⟩
                (intro wq hSw; (try dsimp only at hSw); go_simp; try with_reducible rfl)
              (try simp only [Act.put, List.setIfInBounds_toArray, List.set_cons_zero, List.set_cons_succ])
              refine wpAnyH_take (i := 3) (oi := ?oi59) (v := ?v59) ?hi59 (by kernel_rfl) (by kernel_rfl) (by kernel_rfl) ?hQ59 ?hy59 (by assumption) ?hrest59
              case hi59 => (simp only [List.getElem?_toArray, List.getElem?_cons_succ, List.getElem?_cons_zero]; try rfl)
              case hQ59 => exact fun _ _ _ h => h
              case hy59 =>
                refine Or.inl ⟨by rfl, ?_⟩
                (intro wq hSw; (try dsimp only at hSw); go_simp; try with_reducible rfl)
              (try simp only [Act.put, List.setIfInBounds_toArray, List.set_cons_zero, List.set_cons_succ])
              refine wpAnyH_take (i := 5) (oi := ?oi60) (v := ?v60) ?hi60 (by kernel_rfl) (by kernel_rfl) (by kernel_rfl) ?hQ60 ?hy60 (by assumption) ?hrest60
              case hi60 => (simp only [List.getElem?_toArray, List.getElem?_cons_succ, List.getElem?_cons_zero]; try rfl)
              case hQ60 => exact fun _ _ _ h => h
              case hy60 =>
                refine Or.inl ⟨by rfl, ?_⟩
                (intro wq hSw; (try dsimp only at hSw); go_simp; try with_reducible rfl)
              (try simp only [Act.put, List.setIfInBounds_toArray, List.set_cons_zero, List.set_cons_succ])
              refine wpAnyH_take (i := 6) (oi := ?oi61) (v := ?v61) ?hi61 (by kernel_rfl) (by kernel_rfl) (by kernel_rfl) ?hQ61 ?hy61 (by assumption) ?hrest61
              case hi61 => (simp only [List.getElem?_toArray, List.getElem?_cons_succ, List.getElem?_cons_zero]; try rfl)
              case hQ61 => exact fun _ _ _ h => h
              case hy61 =>
                refine Or.inl ⟨by rfl, ?_⟩
                (intro wq hSw; (try dsimp only at hSw); go_simp; try with_reducible rfl)
              (try simp only [Act.put, List.setIfInBounds_toArray, List.set_cons_zero, List.set_cons_succ])
              refine wpAnyH_take (i := 7) (oi := ?oi62) (v := ?v62) ?hi62 (by kernel_rfl) (by kernel_rfl) (by kernel_rfl) ?hQ62 ?hy62 (by assumption) ?hrest62
              case hi62 => (simp only [List.getElem?_toArray, List.getElem?_cons_succ, List.getElem?_cons_zero]; try rfl)
              case hQ62 => exact fun _ _ _ h => h
              case hy62 =>
                refine Or.inl ⟨by rfl, ?_⟩
                (intro wq hSw; (try dsimp only at hSw); go_simp; try with_reducible rfl)
              (try simp only [Act.put, List.setIfInBounds_toArray, List.set_cons_zero, List.set_cons_succ])
              refine wpAnyH_take (i := 8) (oi := ?oi63) (v := ?v63) ?hi63 (by kernel_rfl) (by kernel_rfl) (by kernel_rfl) ?hQ63 ?hy63 (by assumption) ?hrest63
              case hi63 => (simp only [List.getElem?_toArray, List.getElem?_cons_succ, List.getElem?_cons_zero]; try rfl)
              case hQ63 => exact fun _ _ _ h => h
              case hy63 =>
                refine Or.inl ⟨by rfl, ?_⟩
                (intro wq hSw; (try dsimp only at hSw); go_simp; try with_reducible rfl)
              (try simp only [Act.put, List.setIfInBounds_toArray, List.set_cons_zero, List.set_cons_succ])
              refine wpAnyH_ready (rs := [4]) (by kernel_rfl) (by simp) ?_
              refine AllReadyH.cons (o := ?oi64) ?hi64 (fun K hK => ?hstep64) AllReadyH.nil
              case hi64 => (simp only [List.getElem?_toArray, List.getElem?_cons_succ, List.getElem?_cons_zero]; try rfl)
              go_simp
              (refine (KW.out _ hHeld).mono ?_; rintro e wx ⟨rfl, rfl⟩)
              refine hK.out _ _ hHeld (fun hHeld => ?_)
              clear hK K
              (try simp only [Act.put, List.setIfInBounds_toArray, List.set_cons_zero, List.set_cons_succ])
              refine wpAnyH_take (i := 9) (oi := ?oi65) (v := ?v65) ?hi65 (by kernel_rfl) (by kernel_rfl) (by kernel_rfl) ?hQ65 ?hy65 (by assumption) ?hrest65
              case hi65 => (simp only [List.getElem?_toArray, List.getElem?_cons_succ, List.getElem?_cons_zero]; try rfl)
              case hQ65 => exact fun _ _ _ h => h
              case hy65 =>
                refine Or.inl ⟨by rfl, ?_⟩
                (intro wq hSw; (try dsimp only at hSw); go_simp; try with_reducible rfl)
              (try simp only [Act.put, List.setIfInBounds_toArray, List.set_cons_zero, List.set_cons_succ])
              refine wpAnyH_take (i := 10) (oi := ?oi66) (v := ?v66) ?hi66 (by kernel_rfl) (by kernel_rfl) (by kernel_rfl) ?hQ66 ?hy66 (by assumption) ?hrest66
              case hi66 => (simp only [List.getElem?_toArray, List.getElem?_cons_succ, List.getElem?_cons_zero]; try rfl)
              case hQ66 => exact fun _ _ _ h => h
              case hy66 =>
                refine Or.inl ⟨by rfl, ?_⟩
                (intro wq hSw; (try dsimp only at hSw); go_simp; try with_reducible rfl)
              (try simp only [Act.put, List.setIfInBounds_toArray, List.set_cons_zero, List.set_cons_succ])
              refine wpAnyH_done (by kernel_rfl) ?_ _
              refine NoPanic.normal ?_
              go_wp2_with fail
              go_roundw
              case rel => exact ⟨k + 1, { s with ans := l }, { d with aA := A2, ac := ac2, ans := l2 }, by omega, by go_num, hFz, hAz, hBz.below hHeld, below_step hbz hHeld⟩
              case measure => simp [RowKit.intOf]; omega
          have p0 : (z == 0) = false := by simpa using ez
          have p2 : (z == 2) = false := by simpa using e2
          have p3 : (z == 3) = false := by simpa using e3
          obtain ⟨wt, hwt⟩ : ∃ wt, s.waits = wt := ⟨_, rfl⟩
          cases wt
          · have KT := hid (tick_no hB.pc hwt)
            have KD := hid (fun W (h : Dl W w2.heap.size db d) => tick_no_d h (hAl.waits.trans hwt))
            clear hwt
            go_wp2_with fail
            refine KT.out.mono ?_
            rintro e wx ⟨rfl, rfl⟩
            go_wp2_with fail
            refine (KD.out _ hB.pd).mono ?_
            rintro e wx ⟨rfl, rfl⟩
            have KS := hid (fun W => same_rqs (w := W) (A := none) (B := none) (c := 0) (d := 0) (n := 0) (rs := []) (ts := []) (Els.nil _ _ _) (Els.nil _ _ _) rfl rfl (by decide))
            clear KT KD
            go_wp2_with fail
            refine (KS.out _).mono ?_
            rintro e wz ⟨rfl, hbz⟩
            have hBz := hB.below hbz
            have hbz := below_step hb hbz
            have hFz := hF
            have hAz := hAl
            clear KS
            obtain ⟨ww, hww⟩ : ∃ ww, (s).waits = ww := ⟨_, rfl⟩
            have KW := hid (fun W (hW : Below wz.heap.size wz W) => waits_clw (hBz.pc.gro hW) hww)
            have c5 : wz.cell? ⟨db, 5, none⟩ = some (.bool ww) := by have := (hBz.pd.row.2 5 _ rfl).1; rw [← hww, ← hAz.waits]; exact this
            have k5 := fun W (hW : Below wz.heap.size wz W) => cell_on hW c5
            clear hww
            go_upto_region 25 with fail
            refine wp_region_noPanic ?_
            refine wp_region_held_drew (S := (fun W => Below wz.heap.size wz W)) (by kernel_rfl) ?_ (fun hHeld => ?_)
            · exact (Below.refl _ _).drew
            refine wpAnyH_take (i := 0) (oi := ?oi67) (v := ?v67) ?hi67 (by kernel_rfl) (by kernel_rfl) (by kernel_rfl) ?hQ67 ?hy67 (by assumption) ?hrest67
            case hi67 => (simp only [List.getElem?_toArray, List.getElem?_cons_zero]; try rfl)
            case hQ67 => exact fun _ _ _ h => h
            case hy67 =>
              refine Or.inl ⟨by rfl, ?_⟩
              (intro wq hSw; (try dsimp only at hSw); go_simp; try with_reducible rfl)
            (try simp only [Act.put, List.setIfInBounds_toArray, List.set_cons_zero, List.set_cons_succ])
            refine wpAnyH_take (i := 1) (oi := ?oi68) (v := ?v68) ?hi68 (by kernel_rfl) (by kernel_rfl) (by kernel_rfl) ?hQ68 ?hy68 (by assumption) ?hrest68
            case hi68 => (simp only [List.getElem?_toArray, List.getElem?_cons_succ, List.getElem?_cons_zero]; try rfl)
            case hQ68 => exact fun _ _ _ h => h
            case hy68 =>
              refine Or.inl ⟨by rfl, ?_⟩
              (intro wq hSw; (try dsimp only at hSw); go_simp; try with_reducible rfl)
            (try simp only [Act.put, List.setIfInBounds_toArray, List.set_cons_zero, List.set_cons_succ])
            refine wpAnyH_take (i := 2) (oi := ?oi69) (v := ?v69) ?hi69 (by kernel_rfl) (by kernel_rfl) (by kernel_rfl) ?hQ69 ?hy69 (by assumption) ?hrest69
            case hi69 => (simp only [List.getElem?_toArray, List.getElem?_cons_succ, List.getElem?_cons_zero]; try rfl)
            case hQ69 => exact fun _ _ _ h => h
            case hy69 =>
              refine Or.inl ⟨by rfl, ?_⟩
              (intro wq hSw; (try dsimp only at hSw); go_simp; try with_reducible rfl)
            (try simp only [Act.put, List.setIfInBounds_toArray, List.set_cons_zero, List.set_cons_succ])
            refine wpAnyH_take (i := 3) (oi := ?oi70) (v := ?v70) ?hi70 (by kernel_rfl) (by kernel_rfl) (by kernel_rfl) ?hQ70 ?hy70 (by assumption) ?hrest70
            case hi70 => (simp only [List.getElem?_toArray, List.getElem?_cons_succ, List.getElem?_cons_zero]; try rfl)
            case hQ70 => exact fun _ _ _ h => h
            case hy70 =>
              refine Or.inl ⟨by rfl, ?_⟩
              (intro wq hSw; (try dsimp only at hSw); go_simp; try with_reducible rfl)
            (try simp only [Act.put, List.setIfInBounds_toArray, List.set_cons_zero, List.set_cons_succ])
            refine wpAnyH_take (i := 5) (oi := ?oi71) (v := ?v71) ?hi71 (by kernel_rfl) (by kernel_rfl) (by kernel_rfl) ?hQ71 ?hy71 (by assumption) ?hrest71
            case hi71 => (simp only [List.getElem?_toArray, List.getElem?_cons_succ, List.getElem?_cons_zero]; try rfl)
            case hQ71 => exact fun _ _ _ h => h
            case hy71 =>
              refine Or.inl ⟨by rfl, ?_⟩
              (intro wq hSw; (try dsimp only at hSw); go_simp; try with_reducible rfl)
            (try simp only [Act.put, List.setIfInBounds_toArray, List.set_cons_zero, List.set_cons_succ])
            refine wpAnyH_take (i := 6) (oi := ?oi72) (v := ?v72) ?hi72 (by kernel_rfl) (by kernel_rfl) (by kernel_rfl) ?hQ72 ?hy72 (by assumption) ?hrest72
            case hi72 => (simp only [List.getElem?_toArray, List.getElem?_cons_succ, List.getElem?_cons_zero]; try rfl)
            case hQ72 => exact fun _ _ _ h => h
            case hy72 =>
              refine Or.inl ⟨by rfl, ?_⟩
              (intro wq hSw; (try dsimp only at hSw); go_simp; try with_reducible rfl)
            (try simp only [Act.put, List.setIfInBounds_toArray, List.set_cons_zero, List.set_cons_succ])
            refine wpAnyH_take (i := 7) (oi := ?oi73) (v := ?v73) ?hi73 (by kernel_rfl) (by kernel_rfl) (by kernel_rfl) ?hQ73 ?hy73 (by assumption) ?hrest73
            case hi73 => (simp only [List.getElem?_toArray, List.getElem?_cons_succ, List.getElem?_cons_zero]; try rfl)
            case hQ73 => exact fun _ _ _ h => h
            case hy73 =>
              refine Or.inl ⟨by rfl, ?_⟩
              (intro wq hSw; (try dsimp only at hSw); go_simp; try with_reducible rfl)
            (try simp only [Act.put, List.setIfInBounds_toArray, List.set_cons_zero, List.set_cons_succ])
            refine wpAnyH_take (i := 8) (oi := ?oi74) (v := ?v74) ?hi74 (by kernel_rfl) (by kernel_rfl) (by kernel_rfl) ?hQ74 ?hy74 (by assumption) ?hrest74
            case hi74 => (simp only [List.getElem?_toArray, List.getElem?_cons_succ, List.getElem?_cons_zero]; try rfl)
            case hQ74 => exact fun _ _ _ h => h
            case hy74 =>
              refine Or.inl ⟨by rfl, ?_⟩
              (intro wq hSw; (try dsimp only at hSw); go_simp; try with_reducible rfl)
            (try simp only [Act.put, List.setIfInBounds_toArray, List.set_cons_zero, List.set_cons_succ])
            refine wpAnyH_ready (rs := [4]) (by kernel_rfl) (by simp) ?_
            refine AllReadyH.cons (o := ?oi75) ?hi75 (fun K hK => ?hstep75) AllReadyH.nil
            case hi75 => (simp only [List.getElem?_toArray, List.getElem?_cons_succ, List.getElem?_cons_zero]; try rfl)
            go_simp
            (refine (KW.out _ hHeld).mono ?_; rintro e wx ⟨rfl, rfl⟩)
            refine hK.out _ _ hHeld (fun hHeld => ?_)
            clear hK K
            (try simp only [Act.put, List.setIfInBounds_toArray, List.set_cons_zero, List.set_cons_succ])
            refine wpAnyH_take (i := 9) (oi := ?oi76) (v := ?v76) ?hi76 (by kernel_rfl) (by kernel_rfl) (by kernel_rfl) ?hQ76 ?hy76 (by assumption) ?hrest76
            case hi76 => (simp only [List.getElem?_toArray, List.getElem?_cons_succ, List.getElem?_cons_zero]; try rfl)
            case hQ76 => exact fun _ _ _ h => h
            case hy76 =>
              refine Or.inl ⟨by rfl, ?_⟩
              (intro wq hSw; (try dsimp only at hSw); go_simp; try with_reducible rfl)
            (try simp only [Act.put, List.setIfInBounds_toArray, List.set_cons_zero, List.set_cons_succ])
            refine wpAnyH_take (i := 10) (oi := ?oi77) (v := ?v77) ?hi77 (by kernel_rfl) (by kernel_rfl) (by kernel_rfl) ?hQ77 ?hy77 (by assumption) ?hrest77
            case hi77 => (simp only [List.getElem?_toArray, List.getElem?_cons_succ, List.getElem?_cons_zero]; try rfl)
            case hQ77 => exact fun _ _ _ h => h
            case hy77 =>
              refine Or.inl ⟨by rfl, ?_⟩
              (intro wq hSw; (try dsimp only at hSw); go_simp; try with_reducible rfl)
            (try simp only [Act.put, List.setIfInBounds_toArray, List.set_cons_zero, List.set_cons_succ])
            refine wpAnyH_done (by kernel_rfl) ?_ _
            refine NoPanic.normal ?_
            go_wp2_with fail
            go_roundw
            case rel => exact ⟨k + 1, s, d, by omega, by go_num, hFz, hAz, hBz.below hHeld, below_step hbz hHeld⟩
            case measure => simp [RowKit.intOf]; omega

          · have hr := hF.1.1
            have KT := hid (tick_yes hB.pc hr hwt hF.2)
            go_wp2_with fail
            refine KT.out.mono ?_
            rintro e wx ⟨vv, rfl, hOE, hC2, hG⟩
            have hBx := hB.byC hC2 hG (fun k hk => .inl hk)
            have hbx := hb.trans (gro_belowC hB.pc hwj hws hG)
            have hdl := hB.pd.lt
            have hAE : ∀ r ∈ atAll s, r.A = s.bA ∧ r.body = s.body := fun r hr => by
              unfold atAll at hr
              split at hr
              · unfold rqs at hr
                obtain ⟨i, _, rfl⟩ := List.mem_map.1 hr
                exact ⟨rfl, rfl⟩
              · cases hr
            have hll := atall_len ⟨hr.1, hr.2.1⟩ (s := s)
            have hda := atall_al hAl
            have KD := hid (tick_yes_d hBx.pd (by rw [hAl.f, hAl.again]; unfold okC at hr; omega) (hAl.waits.trans hwt))
            have hat : ∀ ad, vv.ownBlock = some ad → wr.heap.size ≤ ad := fun ad h => (hOE.lt h).1
            obtain ⟨At1, ct1, rfl, _, _, hE⟩ := hOE.rd
            generalize atAll s = rs at hE hAE hll hda hOE
            generalize atAllD d = ts at KD hda
            clear KT hOE hwt
            go_wp2_with fail
            refine KD.out.mono ?_
            rintro e wy ⟨vv2, rfl, hOE2, hD2, hG2⟩
            have hBy := hBx.byD hD2 hG2 (fun k hk => .inl hk)
            have hby := hbx.trans (gro_belowD hBx.pd hwd hbx.size hG2)
            obtain ⟨At2, ct2, rfl, _, _, hE2⟩ := hOE2.rd
            have hE := els_other hE hG2 (fun ad hA => by
              subst hA
              have := hat ad.block rfl
              exact (show ad.block ≠ db ∧ ad.block ≠ d.lb db from by omega)) (fun r hr k hk => by
              rw [(hAE r hr).1, (hAE r hr).2] at hk
              have h1 : CB cb (ticked s) k := .inr (.inr (.inr (.inl hk)))
              exact ⟨fun e => hBx.apt k h1 (.inl e), fun e => hBx.apt k h1 (.inr (.inl e))⟩)
            have htl : ts.length = rs.length := by have := congrArg List.length hda; simpa using this.symm
            have KS := same_rqs (c := ct1) (d := ct2) hE hE2 rfl hda hll
            obtain ⟨n, hn⟩ : ∃ n, rs.length = n := ⟨_, rfl⟩
            rw [htl, hn]
            rw [hn] at KS
            have KS := hid KS
            have hAz := tick_al hAl
            have hFz : FineB (ticked s) := hF
            clear KD hE hE2 hD2 hG2 hC2 hG hBx hOE2 htl hn hda hll hAE hat hr
            go_wp2_with fail
            refine KS.out.mono ?_
            rintro e wz ⟨rfl, hbz⟩
            have hBz := hBy.below hbz
            have hbz := below_step hby hbz
            clear KS hBy hby
            obtain ⟨ww, hww⟩ : ∃ ww, (ticked s).waits = ww := ⟨_, rfl⟩
            have KW := hid (fun W (hW : Below wz.heap.size wz W) => waits_clw (hBz.pc.gro hW) hww)
            have c5 : wz.cell? ⟨db, 5, none⟩ = some (.bool ww) := by have := (hBz.pd.row.2 5 _ rfl).1; rw [← hww, ← hAz.waits]; exact this
            have k5 := fun W (hW : Below wz.heap.size wz W) => cell_on hW c5
            clear hww
            go_upto_region 25 with fail
            refine wp_region_noPanic ?_
            refine wp_region_held_drew (S := (fun W => Below wz.heap.size wz W)) (by kernel_rfl) ?_ (fun hHeld => ?_)
            · exact (Below.refl _ _).drew
            refine wpAnyH_take (i := 0) (oi := ?oi78) (v := ?v78) ?hi78 (by kernel_rfl) (by kernel_rfl) (by kernel_rfl) ?hQ78 ?hy78 (by assumption) ?hrest78
            case hi78 => (simp only [List.getElem?_toArray, List.getElem?_cons_zero]; try rfl)
            case hQ78 => exact fun _ _ _ h => h
            case hy78 =>
              refine Or.inl ⟨by rfl, ?_⟩
              (intro wq hSw; (try dsimp only at hSw); go_simp; try with_reducible rfl)
            (try simp only [Act.put, List.setIfInBounds_toArray, List.set_cons_zero, List.set_cons_succ])
            refine wpAnyH_take (i := 1) (oi := ?oi79) (v := ?v79) ?hi79 (by kernel_rfl) (by kernel_rfl) (by kernel_rfl) ?hQ79 ?hy79 (by assumption) ?hrest79
            case hi79 => (simp only [List.getElem?_toArray, List.getElem?_cons_succ, List.getElem?_cons_zero]; try rfl)
            case hQ79 => exact fun _ _ _ h => h
            case hy79 =>
              refine Or.inl ⟨by rfl, ?_⟩
              (intro wq hSw; (try dsimp only at hSw); go_simp; try with_reducible rfl)
            (try simp only [Act.put, List.setIfInBounds_toArray, List.set_cons_zero, List.set_cons_succ])
            refine wpAnyH_take (i := 2) (oi := ?oi80) (v := ?v80) ?hi80 (by kernel_rfl) (by kernel_rfl) (by kernel_rfl) ?hQ80 ?hy80 (by assumption) ?hrest80
            case hi80 => (simp only [List.getElem?_toArray, List.getElem?_cons_succ, List.getElem?_cons_zero]; try rfl)
            case hQ80 => exact fun _ _ _ h => h
            case hy80 =>
              refine Or.inl ⟨by rfl, ?_⟩
              (intro wq hSw; (try dsimp only at hSw); go_simp; try with_reducible rfl)
            (try simp only [Act.put, List.setIfInBounds_toArray, List.set_cons_zero, List.set_cons_succ])
            refine wpAnyH_take (i := 3) (oi := ?oi81) (v := ?v81) ?hi81 (by kernel_rfl) (by kernel_rfl) (by kernel_rfl) ?hQ81 ?hy81 (by assumption) ?hrest81
            case hi81 => (simp only [List.getElem?_toArray, List.getElem?_cons_succ, List.getElem?_cons_zero]; try rfl)
            case hQ81 => exact fun _ _ _ h => h
            case hy81 =>
              refine Or.inl ⟨by rfl, ?_⟩
              (intro wq hSw; (try dsimp only at hSw); go_simp; try with_reducible rfl)
            (try simp only [Act.put, List.setIfInBounds_toArray, List.set_cons_zero, List.set_cons_succ])
            refine wpAnyH_take (i := 5) (oi := ?oi82) (v := ?v82) ?hi82 (by kernel_rfl) (by kernel_rfl) (by kernel_rfl) ?hQ82 ?hy82 (by assumption) ?hrest82
            case hi82 => (simp only [List.getElem?_toArray, List.getElem?_cons_succ, List.getElem?_cons_zero]; try rfl)
            case hQ82 => exact fun _ _ _ h => h
            case hy82 =>
              refine Or.inl ⟨by rfl, ?_⟩
              (intro wq hSw; (try dsimp only at hSw); go_simp; try with_reducible rfl)
            (try simp only [Act.put, List.setIfInBounds_toArray, List.set_cons_zero, List.set_cons_succ])
            refine wpAnyH_take (i := 6) (oi := ?oi83) (v := ?v83) ?hi83 (by kernel_rfl) (by kernel_rfl) (by kernel_rfl) ?hQ83 ?hy83 (by assumption) ?hrest83
            case hi83 => (simp only [List.getElem?_toArray, List.getElem?_cons_succ, List.getElem?_cons_zero]; try rfl)
            case hQ83 => exact fun _ _ _ h => h
            case hy83 =>
              refine Or.inl ⟨by rfl, ?_⟩
              (intro wq hSw; (try dsimp only at hSw); go_simp; try with_reducible rfl)
            (try simp only [Act.put, List.setIfInBounds_toArray, List.set_cons_zero, List.set_cons_succ])
            refine wpAnyH_take (i := 7) (oi := ?oi84) (v := ?v84) ?hi84 (by kernel_rfl) (by kernel_rfl) (by kernel_rfl) ?hQ84 ?hy84 (by assumption) ?hrest84
            case hi84 => (simp only [List.getElem?_toArray, List.getElem?_cons_succ, List.getElem?_cons_zero]; try rfl)
            case hQ84 => exact fun _ _ _ h => h
            case hy84 =>
              refine Or.inl ⟨by rfl, ?_⟩
              (intro wq hSw; (try dsimp only at hSw); go_simp; try with_reducible rfl)
            (try simp only [Act.put, List.setIfInBounds_toArray, List.set_cons_zero, List.set_cons_succ])
            refine wpAnyH_take (i := 8) (oi := ?oi85) (v := ?v85) ?hi85 (by kernel_rfl) (by kernel_rfl) (by kernel_rfl) ?hQ85 ?hy85 (by assumption) ?hrest85
            case hi85 => (simp only [List.getElem?_toArray, List.getElem?_cons_succ, List.getElem?_cons_zero]; try rfl)
            case hQ85 => exact fun _ _ _ h => h
            case hy85 =>
              refine Or.inl ⟨by rfl, ?_⟩
              (intro wq hSw; (try dsimp only at hSw); go_simp; try with_reducible rfl)
            (try simp only [Act.put, List.setIfInBounds_toArray, List.set_cons_zero, List.set_cons_succ])
            refine wpAnyH_ready (rs := [4]) (by kernel_rfl) (by simp) ?_
            refine AllReadyH.cons (o := ?oi86) ?hi86 (fun K hK => ?hstep86) AllReadyH.nil
            case hi86 => (simp only [List.getElem?_toArray, List.getElem?_cons_succ, List.getElem?_cons_zero]; try rfl)
            go_simp
            (refine (KW.out _ hHeld).mono ?_; rintro e wx ⟨rfl, rfl⟩)
            refine hK.out _ _ hHeld (fun hHeld => ?_)
            clear hK K
            (try simp only [Act.put, List.setIfInBounds_toArray, List.set_cons_zero, List.set_cons_succ])
            refine wpAnyH_take (i := 9) (oi := ?oi87) (v := ?v87) ?hi87 (by kernel_rfl) (by kernel_rfl) (by kernel_rfl) ?hQ87 ?hy87 (by assumption) ?hrest87
            case hi87 => (simp only [List.getElem?_toArray, List.getElem?_cons_succ, List.getElem?_cons_zero]; try rfl)
            case hQ87 => exact fun _ _ _ h => h
            case hy87 =>
              refine Or.inl ⟨by rfl, ?_⟩
              (intro wq hSw; (try dsimp only at hSw); go_simp; try with_reducible rfl)
            (try simp only [Act.put, List.setIfInBounds_toArray, List.set_cons_zero, List.set_cons_succ])
            refine wpAnyH_take (i := 10) (oi := ?oi88) (v := ?v88) ?hi88 (by kernel_rfl) (by kernel_rfl) (by kernel_rfl) ?hQ88 ?hy88 (by assumption) ?hrest88
            case hi88 => (simp only [List.getElem?_toArray, List.getElem?_cons_succ, List.getElem?_cons_zero]; try rfl)
            case hQ88 => exact fun _ _ _ h => h
            case hy88 =>
              refine Or.inl ⟨by rfl, ?_⟩
              (intro wq hSw; (try dsimp only at hSw); go_simp; try with_reducible rfl)
            (try simp only [Act.put, List.setIfInBounds_toArray, List.set_cons_zero, List.set_cons_succ])
            refine wpAnyH_done (by kernel_rfl) ?_ _
            refine NoPanic.normal ?_
            go_wp2_with fail
            go_roundw
            case rel => exact ⟨k + 1, ticked s, tickedD d, by omega, by go_num, hFz, hAz, hBz.below hHeld, below_step hbz hHeld⟩
            case measure => simp [RowKit.intOf]; omega
        · go_wp2_with fail
          go_ret
          exact ⟨rfl, hb⟩
  · go_wp2_with fail
    refine (new_cl_no hok w1).mono ?_
    rintro e w2 ⟨rfl, hb2⟩
    have b2 := below_step hb1 hb2
    go_wp2_with fail
    refine (new_dl_no hok w2).mono ?_
    rintro e w3 ⟨rfl, rfl⟩
    go_wp2_with fail
    go_ret
    exact ⟨rfl, b2⟩
end Go.Proofs.Ytelmndpelgbboaa
