import Derived.Test.YtnkocbdbfkhgmaaDoorCodeN
import Derived.Test.YtnkocbdbfkhgmaaDoorCodeJ
import Derived.Test.YtnkocbdbfkhgmaaDoorPlain1
/-! CodeLimits: one function more than a module has. -/
namespace Go.Proofs.YtnkocbdbfkhgmaaDoor
open Go.RowKit Go.Cov
theorem rd_five {w : World} {b : Nat} {x y z u v : Value} (h0 : w.cell? ⟨b, 0, none⟩ = some x) (h1 : w.cell? ⟨b, 1, none⟩ = some y) (h2 : w.cell? ⟨b, 2, none⟩ = some z) (h3 : w.cell? ⟨b, 3, none⟩ = some u) (h4 : w.cell? ⟨b, 4, none⟩ = some v) : Rd w (some ⟨b, 0, none⟩) [x, y, z, u, v] := by
  intro j t hj
  refine ⟨_, rfl, ?_⟩
  rw [add_none]
  rcases j with _ | _ | _ | _ | _ | j
  · cases hj; exact h0
  · cases hj; exact h1
  · cases hj; exact h2
  · cases hj; exact h3
  · cases hj; exact h4
  · simp at hj
theorem made5 (w : World) (t : TypeId) : (w.alloc (.cells #[] t)).ownsRow w.heap.size t 5 (.slice (some ⟨w.heap.size, 0, none⟩) 0 0) 0 [] := World.ownsRow_made w #[] 0 (Nat.le_refl _) (by simp [maxLen]) rfl
theorem newrow5_K {K : Act → World → Prop} {a : Act} {W : World} {t : TypeId} (B : Nat) (hB : B ≤ W.heap.size)
    (h : ∀ wx, Below W.heap.size W wx → wx.ownsRow B t 5 (.slice (some ⟨W.heap.size, 0, none⟩) 0 0) 0 [] → K a wx) : K a (W.alloc (.cells #[] t)) :=
  h _ (below_alloc _ _) (own_mono (made5 W t) hB)
theorem newrow5_Kd {K : Act → World → Prop} {a : Act} {W : World} {t : TypeId} (B : Nat) (hB : B ≤ W.heap.size)
    (h : ∀ wx, Below W.drew.heap.size W.drew wx → wx.ownsRow B t 5 (.slice (some ⟨W.heap.size, 0, none⟩) 0 0) 0 [] → K a wx) : K a (W.alloc (.cells #[] t)).drew :=
  h (W.drew.alloc (.cells #[] t)) (below_alloc W.drew _) (own_mono (made5 W.drew t) hB)
theorem with_is {cA : Option Addr} {cc : Nat} {cs : List Co} {tA : Option Addr} {tc : Nat} {ts : List SlR} (hr : rightMo (⟨cA, cc, cs, tA, tc, ts⟩ : Mo).data = true) (h40 : cs.length ≤ 40) (A : Option Addr) (c : Nat) (x : Co) : rightMo (⟨A, c, cs ++ [x], tA, tc, ts⟩ : Mo).data = rightC x.data := by
  rw [rightMo_of] at hr ⊢
  simp only [Bool.and_eq_true, decide_eq_true_eq] at hr
  obtain ⟨h1, h2, h3, h4⟩ := hr
  dsimp only at h1 h2 h3 h4 ⊢
  rw [h3, decide_eq_true h2, decide_eq_true (by simp; omega), List.all_append, h4]
  simp
theorem with_call {w : World} {cA : Option Addr} {cc : Nat} {cs : List Co} {tA : Option Addr} {tc : Nat} {ts : List SlR} (h : MoRd w ⟨cA, cc, cs, tA, tc, ts⟩) {x : Co} (hx : CoRd w x) (hr : rightMo (⟨cA, cc, cs, tA, tc, ts⟩ : Mo).data = true) (h40 : cs.length ≤ 40)
    {base n c : Nat} {A : Option Addr} (hn : n = cs.length + 1) (own : w.ownsRow base 46 5 (.slice A n c) n (cs.flatMap coEl.cells ++ x.cells)) (hc : n ≤ c ∧ c ≤ maxLen) :
    Calls Tryd.prog 17 #[.agg #[.slice A n c, .slice tA ts.length tc]] w fun e w' => e = .returned (.bool (rightC x.data)) ∧ Below w.heap.size w w' := by
  have hm : MoRd w ⟨A, c, cs ++ [x], tA, tc, ts⟩ := by
    refine ⟨⟨?_, fun a _ p hp => by cases hp⟩, fun a ha => ?_, h.t, by simpa [hn] using hc, h.tc⟩
    · have := own_rd own
      rw [List.flatMap_append]
      simpa [coEl] using this
    · rcases List.mem_append.1 ha with ha | ha
      · exact h.r a ha
      · rw [List.mem_singleton.1 ha]; exact hx
  have K := right_any hm
  rw [with_is hr h40] at K
  simpa [hn] using K
set_option maxRecDepth 100000 in
set_option maxHeartbeats 12800000 in
theorem with_any {w : World} {kM : Nat} {cA : Option Addr} {cc : Nat} {cs : List Co} {tA : Option Addr} {tc : Nat} {ts : List SlR} (R : Row w kM [.slice cA cs.length cc, .slice tA ts.length tc]) (h : MoRd w ⟨cA, cc, cs, tA, tc, ts⟩) {x : Co} (hx : CoRd w x) (hr : rightMo (⟨cA, cc, cs, tA, tc, ts⟩ : Mo).data = true) (h40 : cs.length ≤ 40) {q : Bool} (hq : rightC x.data = q) :
    Calls Tryd.prog 23 #[.agg #[.string (str x.nm), .slice x.pA x.ps.length x.pc, .int .i64 x.res, .int .i64 x.slots, .slice x.iA x.is.length x.ic], .pointer (some ⟨kM, 0, none⟩)] w fun e w' => e = .returned (.bool q) ∧ Below w.heap.size w w' := by
  have KW := fun (W : World) (hW : Below w.heap.size w W) (n c : Nat) (A : Option Addr) (base : Nat) (hn : n = cs.length + 1) (own : W.ownsRow base 46 5 (.slice A n c) n (cs.flatMap coEl.cells ++ x.cells)) (hc : n ≤ c ∧ c ≤ maxLen) => with_call (h.below hW) (hx.below hW) hr h40 hn own hc
  rw [hq] at KW
  have hE := fun (W : World) (hW : Below w.heap.size w W) => (h.below hW).c.1
  dsimp only at hE
  clear hq hr h hx
  obtain ⟨nm, pA, pc, ps, res, slots, iA, ic, is⟩ := x
  unfold Co.cells at KW
  dsimp only at KW ⊢
  have b1 := below_alloc w (.cells #[.string (str nm), .slice pA ps.length pc, .int .i64 res, .int .i64 slots, .slice iA is.length ic] 46)
  have R1 := Row.new w [.string (str nm), .slice pA ps.length pc, .int .i64 res, .int .i64 slots, .slice iA is.length ic] 46
  replace R := hid (R.below b1)
  replace KW := hid KW
  replace hE := hid hE
  go_enter Tryd.func23, Tryd.ntmps23
  go_upto_region 1 with fail
  change Row (w.alloc (.cells #[.string (str nm), .slice pA ps.length pc, .int .i64 res, .int .i64 slots, .slice iA is.length ic] 46)) _ _ at R1
  obtain ⟨kX, hkX⟩ : ∃ k, k = w.heap.size := ⟨_, rfl⟩
  generalize w.alloc (.cells #[.string (str nm), .slice pA ps.length pc, .int .i64 res, .int .i64 slots, .slice iA is.length ic] 46) = w1 at b1 R1 R ⊢
  rw [← hkX] at R1 ⊢
  have c0 := fun W (hW : Below w1.heap.size w1 W) => cell_on hW (R1.2 0 _ rfl).1
  have c1 := fun W (hW : Below w1.heap.size w1 W) => cell_on hW (R1.2 1 _ rfl).1
  have c2 := fun W (hW : Below w1.heap.size w1 W) => cell_on hW (R1.2 2 _ rfl).1
  have c3 := fun W (hW : Below w1.heap.size w1 W) => cell_on hW (R1.2 3 _ rfl).1
  have c4 := fun W (hW : Below w1.heap.size w1 W) => cell_on hW (R1.2 4 _ rfl).1
  have d0 := fun W (hW : Below w1.heap.size w1 W) => cell_on hW (R.out.2 0 _ rfl).1
  have d1 := fun W (hW : Below w1.heap.size w1 W) => cell_on hW (R.out.2 1 _ rfl).1
  clear R R1 hkX
  have bcur := (Below.refl w1.heap.size w1).drew
  refine wp_region_noPanic ?_
  refine wp_region_held_drew (S := (fun W => Below w1.heap.size w1 W)) (by kernel_rfl) ?_ (fun hHeld => ?_)
  · exact (Below.refl _ _).drew
  refine wpAnyH_take (i := 1) (oi := ?oi1) (v := ?v1) ?hi1 (by kernel_rfl) (by kernel_rfl) (by kernel_rfl) ?hQ1 ?hy1 (by assumption) ?hrest1
  case hi1 => (simp only [List.getElem?_toArray, List.getElem?_cons_succ, List.getElem?_cons_zero]; try rfl)
  case hQ1 => exact fun _ _ _ h => h
  case hy1 =>
    refine Or.inl ⟨by rfl, ?_⟩
    (intro wq hSw; (try dsimp only at hSw); go_simp; try with_reducible rfl)
  (try simp only [Act.put, List.setIfInBounds_toArray, List.set_cons_zero, List.set_cons_succ])
  refine wpAnyH_take (i := 2) (oi := ?oi2) (v := ?v2) ?hi2 (by kernel_rfl) (by kernel_rfl) (by kernel_rfl) ?hQ2 ?hy2 (by assumption) ?hrest2
  case hi2 => (simp only [List.getElem?_toArray, List.getElem?_cons_succ, List.getElem?_cons_zero]; try rfl)
  case hQ2 => exact fun _ _ _ h => h
  case hy2 =>
    refine Or.inl ⟨by rfl, ?_⟩
    (intro wq hSw; (try dsimp only at hSw); go_simp; try with_reducible rfl)
  (try simp only [Act.put, List.setIfInBounds_toArray, List.set_cons_zero, List.set_cons_succ])
  refine wpAnyH_take (i := 4) (oi := ?oi3) (v := ?v3) ?hi3 (by kernel_rfl) (by kernel_rfl) (by kernel_rfl) ?hQ3 ?hy3 (by assumption) ?hrest3
  case hi3 => (simp only [List.getElem?_toArray, List.getElem?_cons_succ, List.getElem?_cons_zero]; try rfl)
  case hQ3 => exact fun _ _ _ h => h
  case hy3 =>
    refine Or.inl ⟨by rfl, ?_⟩
    (intro wq hSw; (try dsimp only at hSw); go_simp; try with_reducible rfl)
  (try simp only [Act.put, List.setIfInBounds_toArray, List.set_cons_zero, List.set_cons_succ])
  refine wpAnyH_take (i := 7) (oi := ?oi4) (v := ?v4) ?hi4 (by kernel_rfl) (by kernel_rfl) (by kernel_rfl) ?hQ4 ?hy4 (by assumption) ?hrest4
  case hi4 => (simp only [List.getElem?_toArray, List.getElem?_cons_succ, List.getElem?_cons_zero]; try rfl)
  case hQ4 => exact fun _ _ _ h => h
  case hy4 =>
    refine Or.inl ⟨by rfl, ?_⟩
    (intro wq hSw; (try dsimp only at hSw); go_simp; try with_reducible rfl)
  (try simp only [Act.put, List.setIfInBounds_toArray, List.set_cons_zero, List.set_cons_succ])
  refine wpAnyH_take (i := 8) (oi := ?oi5) (v := ?v5) ?hi5 (by kernel_rfl) (by kernel_rfl) (by kernel_rfl) ?hQ5 ?hy5 (by assumption) ?hrest5
  case hi5 => (simp only [List.getElem?_toArray, List.getElem?_cons_succ, List.getElem?_cons_zero]; try rfl)
  case hQ5 => exact fun _ _ _ h => h
  case hy5 =>
    refine Or.inl ⟨by rfl, ?_⟩
    (intro wq hSw; (try dsimp only at hSw); go_simp; try with_reducible rfl)
  (try simp only [Act.put, List.setIfInBounds_toArray, List.set_cons_zero, List.set_cons_succ])
  refine wpAnyH_ready (rs := [0, 5]) (by kernel_rfl) (by simp) ?_
  refine AllReadyH.cons (o := ?oi6) ?hi6 (fun K hK => ?hstep6) ?hmore6
  case hi6 => (simp only [List.getElem?_toArray, List.getElem?_cons_zero]; try rfl)
  case hstep6 =>
    go_simp
    (have hs0 := bcur.size; (first | refine newrow5_Kd w1.heap.size hs0 ?_ | refine newrow5_Kd w1.heap.size (Nat.le_refl _) ?_ | refine newrow5_K w1.heap.size hs0 ?_); intro wx hbx hmo; have hne := (own_lt hmo rfl).2; dsimp only at hne; have bcur := below_step bcur hbx; (try have m0 := cell_on hbx m0); (try have m1 := cell_on hbx m1); (try have m2 := cell_on hbx m2); (try have m3 := cell_on hbx m3); (try have m4 := cell_on hbx m4))
    refine hK.out _ _ ?_ (fun hHeld => ?_)
    · exact bcur
    clear hK K
    (try simp only [Act.put, List.setIfInBounds_toArray, List.set_cons_zero, List.set_cons_succ])
    refine wpAnyH_ready (rs := [3, 5]) (by kernel_rfl) (by simp) ?_
    refine AllReadyH.cons (o := ?oi7) ?hi7 (fun K hK => ?hstep7) ?hmore7
    case hi7 => (simp only [List.getElem?_toArray, List.getElem?_cons_succ, List.getElem?_cons_zero]; try rfl)
    case hstep7 =>
      (refine oper_app2 rfl (.tmp 4) (.tmp 6) 22 rfl w1.heap.size 46 Tryd.underlying22 info_co rfl (by decide) _ 0 [] rfl hmo cA cs.length cc (cs.flatMap coEl.cells) rfl (coEl.flat_len _) (hE.out _ (below_step b1 bcur)) (coEl.flat_one _) (by omega) (by omega) bcur.size ?_; intro v5 w5 hin5 hg5 hat5; have bcur := bcur.grown hg5 bcur.size (fun k hk => (own_lt hmo hk).1); (try have m0 := hg5.cell m0 (fun e => by have e := Option.some.inj e; dsimp only [Value.ownBlock] at e; omega)); (try have m1 := hg5.cell m1 (fun e => by have e := Option.some.inj e; dsimp only [Value.ownBlock] at e; omega)); (try have m2 := hg5.cell m2 (fun e => by have e := Option.some.inj e; dsimp only [Value.ownBlock] at e; omega)); (try have m3 := hg5.cell m3 (fun e => by have e := Option.some.inj e; dsimp only [Value.ownBlock] at e; omega)); (try have m4 := hg5.cell m4 (fun e => by have e := Option.some.inj e; dsimp only [Value.ownBlock] at e; omega)))
      refine hK.out _ _ ?_ (fun hHeld => ?_)
      · exact bcur
      clear hK K
      (try simp only [Act.put, List.setIfInBounds_toArray, List.set_cons_zero, List.set_cons_succ])
      refine wpAnyH_ready (rs := [5]) (by kernel_rfl) (by simp) ?_
      refine AllReadyH.cons (o := ?oi8) ?hi8 (fun K hK => ?hstep8) AllReadyH.nil
      case hi8 => (simp only [List.getElem?_toArray, List.getElem?_cons_succ, List.getElem?_cons_zero]; try rfl)
      go_simp
      ((first | refine newvar_Kd ?_ | refine newvar_K ?_); intro wx hbx nv nf nz; have m0 := nv 0 _ rfl; have m1 := nv 1 _ rfl; have m2 := nv 2 _ rfl; have m3 := nv 3 _ rfl; have m4 := nv 4 _ rfl; have bcur := below_step bcur hbx; (try have hmo := own_below hmo hbx); (try have hin5 := own_below hin5 hbx); clear nv nf)
      refine hK.out _ _ ?_ (fun hHeld => ?_)
      · exact bcur
      clear hK K
      (try simp only [Act.put, List.setIfInBounds_toArray, List.set_cons_zero, List.set_cons_succ])
      refine wpAnyH_ready (rs := [6]) (by kernel_rfl) (by simp) ?_
      refine AllReadyH.cons (o := ?oi9) ?hi9 (fun K hK => ?hstep9) AllReadyH.nil
      case hi9 => (simp only [List.getElem?_toArray, List.getElem?_cons_succ, List.getElem?_cons_zero]; try rfl)
      (refine oper_app2 rfl (.tmp 7) (.tmp 9) 22 rfl w1.heap.size 46 Tryd.underlying22 info_co rfl (by decide) v5 (0 + cs.length) ([] ++ cs.flatMap coEl.cells) rfl hin5 (some ⟨_, 0, none⟩) 1 1 [.string (str nm), .slice pA ps.length pc, .int .i64 res, .int .i64 slots, .slice iA is.length ic] rfl rfl (rd_five m0 m1 m2 m3 m4) (by intro u hu; simp at hu; rcases hu with rfl | rfl | rfl | rfl | rfl <;> rfl) (by omega) (by omega) bcur.size ?_; intro v8 w8 hin8 hg8 hat8; rw [Nat.zero_add, List.nil_append] at hin8; obtain ⟨C8, q8, hv8, hq8, hq9, _⟩ := own_shape hin8; subst hv8; have bcur := bcur.grown hg8 bcur.size (fun k hk => (own_lt hin5 hk).1); have KR := hid (KW.out _ (below_step b1 bcur) _ _ _ _ rfl hin8 ⟨hq8, hq9⟩); clear hat8 hg8)
      refine hK.out _ _ ?_ (fun hHeld => ?_)
      · exact bcur
      clear hK K
      (try simp only [Act.put, List.setIfInBounds_toArray, List.set_cons_zero, List.set_cons_succ])
      refine wpAnyH_take (i := 9) (oi := ?oi10) (v := ?v10) ?hi10 (by kernel_rfl) (by kernel_rfl) (by kernel_rfl) ?hQ10 ?hy10 (by assumption) ?hrest10
      case hi10 => (simp only [List.getElem?_toArray, List.getElem?_cons_succ, List.getElem?_cons_zero]; try rfl)
      case hQ10 => exact fun _ _ _ h => h
      case hy10 =>
        refine Or.inl ⟨by rfl, ?_⟩
        (intro wq hSw; (try dsimp only at hSw); go_simp; try with_reducible rfl)
      (try simp only [Act.put, List.setIfInBounds_toArray, List.set_cons_zero, List.set_cons_succ])
      refine wpAnyH_ready (rs := [10]) (by kernel_rfl) (by simp) ?_
      refine AllReadyH.cons (o := ?oi11) ?hi11 (fun K hK => ?hstep11) AllReadyH.nil
      case hi11 => (simp only [List.getElem?_toArray, List.getElem?_cons_succ, List.getElem?_cons_zero]; try rfl)
      go_simp
      (refine KR.out.mono ?_; rintro e wx ⟨rfl, hbx⟩; have bcur := below_step bcur hbx)
      refine hK.out _ _ ?_ (fun hHeld => ?_)
      · exact bcur
      clear hK K
      (try simp only [Act.put, List.setIfInBounds_toArray, List.set_cons_zero, List.set_cons_succ])
      refine wpAnyH_take (i := 11) (oi := ?oi12) (v := ?v12) ?hi12 (by kernel_rfl) (by kernel_rfl) (by kernel_rfl) ?hQ12 ?hy12 (by assumption) ?hrest12
      case hi12 => (simp only [List.getElem?_toArray, List.getElem?_cons_succ, List.getElem?_cons_zero]; try rfl)
      case hQ12 => exact fun _ _ _ h => h
      case hy12 =>
        refine Or.inl ⟨by rfl, ?_⟩
        (intro wq hSw; (try dsimp only at hSw); go_simp; try with_reducible rfl)
      (try simp only [Act.put, List.setIfInBounds_toArray, List.set_cons_zero, List.set_cons_succ])
      refine wpAnyH_done (by kernel_rfl) ?_ _
      refine NoPanic.normal ?_
      (have bf := below_step b1 bcur; go_wp2_with fail; go_ret; exact ⟨rfl, bf⟩)
    refine AllReadyH.cons (o := ?oi13) ?hi13 (fun K hK => ?hstep13) ?hmore13
    case hi13 => (simp only [List.getElem?_toArray, List.getElem?_cons_succ, List.getElem?_cons_zero]; try rfl)
    case hstep13 =>
      go_simp
      ((first | refine newvar_Kd ?_ | refine newvar_K ?_); intro wx hbx nv nf nz; have m0 := nv 0 _ rfl; have m1 := nv 1 _ rfl; have m2 := nv 2 _ rfl; have m3 := nv 3 _ rfl; have m4 := nv 4 _ rfl; have bcur := below_step bcur hbx; (try have hmo := own_below hmo hbx); (try have hin5 := own_below hin5 hbx); clear nv nf)
      refine hK.out _ _ ?_ (fun hHeld => ?_)
      · exact bcur
      clear hK K
      (try simp only [Act.put, List.setIfInBounds_toArray, List.set_cons_zero, List.set_cons_succ])
      refine wpAnyH_ready (rs := [3]) (by kernel_rfl) (by simp) ?_
      refine AllReadyH.cons (o := ?oi14) ?hi14 (fun K hK => ?hstep14) AllReadyH.nil
      case hi14 => (simp only [List.getElem?_toArray, List.getElem?_cons_succ, List.getElem?_cons_zero]; try rfl)
      (refine oper_app2 rfl (.tmp 4) (.tmp 6) 22 rfl w1.heap.size 46 Tryd.underlying22 info_co rfl (by decide) _ 0 [] rfl hmo cA cs.length cc (cs.flatMap coEl.cells) rfl (coEl.flat_len _) (hE.out _ (below_step b1 bcur)) (coEl.flat_one _) (by omega) (by omega) bcur.size ?_; intro v5 w5 hin5 hg5 hat5; have bcur := bcur.grown hg5 bcur.size (fun k hk => (own_lt hmo hk).1); (try have m0 := hg5.cell m0 (fun e => by have e := Option.some.inj e; dsimp only [Value.ownBlock] at e; omega)); (try have m1 := hg5.cell m1 (fun e => by have e := Option.some.inj e; dsimp only [Value.ownBlock] at e; omega)); (try have m2 := hg5.cell m2 (fun e => by have e := Option.some.inj e; dsimp only [Value.ownBlock] at e; omega)); (try have m3 := hg5.cell m3 (fun e => by have e := Option.some.inj e; dsimp only [Value.ownBlock] at e; omega)); (try have m4 := hg5.cell m4 (fun e => by have e := Option.some.inj e; dsimp only [Value.ownBlock] at e; omega)))
      refine hK.out _ _ ?_ (fun hHeld => ?_)
      · exact bcur
      clear hK K
      (try simp only [Act.put, List.setIfInBounds_toArray, List.set_cons_zero, List.set_cons_succ])
      refine wpAnyH_ready (rs := [6]) (by kernel_rfl) (by simp) ?_
      refine AllReadyH.cons (o := ?oi15) ?hi15 (fun K hK => ?hstep15) AllReadyH.nil
      case hi15 => (simp only [List.getElem?_toArray, List.getElem?_cons_succ, List.getElem?_cons_zero]; try rfl)
      (refine oper_app2 rfl (.tmp 7) (.tmp 9) 22 rfl w1.heap.size 46 Tryd.underlying22 info_co rfl (by decide) v5 (0 + cs.length) ([] ++ cs.flatMap coEl.cells) rfl hin5 (some ⟨_, 0, none⟩) 1 1 [.string (str nm), .slice pA ps.length pc, .int .i64 res, .int .i64 slots, .slice iA is.length ic] rfl rfl (rd_five m0 m1 m2 m3 m4) (by intro u hu; simp at hu; rcases hu with rfl | rfl | rfl | rfl | rfl <;> rfl) (by omega) (by omega) bcur.size ?_; intro v8 w8 hin8 hg8 hat8; rw [Nat.zero_add, List.nil_append] at hin8; obtain ⟨C8, q8, hv8, hq8, hq9, _⟩ := own_shape hin8; subst hv8; have bcur := bcur.grown hg8 bcur.size (fun k hk => (own_lt hin5 hk).1); have KR := hid (KW.out _ (below_step b1 bcur) _ _ _ _ rfl hin8 ⟨hq8, hq9⟩); clear hat8 hg8)
      refine hK.out _ _ ?_ (fun hHeld => ?_)
      · exact bcur
      clear hK K
      (try simp only [Act.put, List.setIfInBounds_toArray, List.set_cons_zero, List.set_cons_succ])
      refine wpAnyH_take (i := 9) (oi := ?oi16) (v := ?v16) ?hi16 (by kernel_rfl) (by kernel_rfl) (by kernel_rfl) ?hQ16 ?hy16 (by assumption) ?hrest16
      case hi16 => (simp only [List.getElem?_toArray, List.getElem?_cons_succ, List.getElem?_cons_zero]; try rfl)
      case hQ16 => exact fun _ _ _ h => h
      case hy16 =>
        refine Or.inl ⟨by rfl, ?_⟩
        (intro wq hSw; (try dsimp only at hSw); go_simp; try with_reducible rfl)
      (try simp only [Act.put, List.setIfInBounds_toArray, List.set_cons_zero, List.set_cons_succ])
      refine wpAnyH_ready (rs := [10]) (by kernel_rfl) (by simp) ?_
      refine AllReadyH.cons (o := ?oi17) ?hi17 (fun K hK => ?hstep17) AllReadyH.nil
      case hi17 => (simp only [List.getElem?_toArray, List.getElem?_cons_succ, List.getElem?_cons_zero]; try rfl)
      go_simp
      (refine KR.out.mono ?_; rintro e wx ⟨rfl, hbx⟩; have bcur := below_step bcur hbx)
      refine hK.out _ _ ?_ (fun hHeld => ?_)
      · exact bcur
      clear hK K
      (try simp only [Act.put, List.setIfInBounds_toArray, List.set_cons_zero, List.set_cons_succ])
      refine wpAnyH_take (i := 11) (oi := ?oi18) (v := ?v18) ?hi18 (by kernel_rfl) (by kernel_rfl) (by kernel_rfl) ?hQ18 ?hy18 (by assumption) ?hrest18
      case hi18 => (simp only [List.getElem?_toArray, List.getElem?_cons_succ, List.getElem?_cons_zero]; try rfl)
      case hQ18 => exact fun _ _ _ h => h
      case hy18 =>
        refine Or.inl ⟨by rfl, ?_⟩
        (intro wq hSw; (try dsimp only at hSw); go_simp; try with_reducible rfl)
      (try simp only [Act.put, List.setIfInBounds_toArray, List.set_cons_zero, List.set_cons_succ])
      refine wpAnyH_done (by kernel_rfl) ?_ _
      refine NoPanic.normal ?_
      (have bf := below_step b1 bcur; go_wp2_with fail; go_ret; exact ⟨rfl, bf⟩)
    exact AllReadyH.nil
  refine AllReadyH.cons (o := ?oi19) ?hi19 (fun K hK => ?hstep19) ?hmore19
  case hi19 => (simp only [List.getElem?_toArray, List.getElem?_cons_succ, List.getElem?_cons_zero]; try rfl)
  case hstep19 =>
    go_simp
    ((first | refine newvar_Kd ?_ | refine newvar_K ?_); intro wx hbx nv nf nz; have m0 := nv 0 _ rfl; have m1 := nv 1 _ rfl; have m2 := nv 2 _ rfl; have m3 := nv 3 _ rfl; have m4 := nv 4 _ rfl; have bcur := below_step bcur hbx; (try have hmo := own_below hmo hbx); (try have hin5 := own_below hin5 hbx); clear nv nf)
    refine hK.out _ _ ?_ (fun hHeld => ?_)
    · exact bcur
    clear hK K
    (try simp only [Act.put, List.setIfInBounds_toArray, List.set_cons_zero, List.set_cons_succ])
    refine wpAnyH_ready (rs := [0]) (by kernel_rfl) (by simp) ?_
    refine AllReadyH.cons (o := ?oi20) ?hi20 (fun K hK => ?hstep20) AllReadyH.nil
    case hi20 => (simp only [List.getElem?_toArray, List.getElem?_cons_zero]; try rfl)
    go_simp
    (have hs0 := bcur.size; (first | refine newrow5_Kd w1.heap.size hs0 ?_ | refine newrow5_Kd w1.heap.size (Nat.le_refl _) ?_ | refine newrow5_K w1.heap.size hs0 ?_); intro wx hbx hmo; have hne := (own_lt hmo rfl).2; dsimp only at hne; have bcur := below_step bcur hbx; (try have m0 := cell_on hbx m0); (try have m1 := cell_on hbx m1); (try have m2 := cell_on hbx m2); (try have m3 := cell_on hbx m3); (try have m4 := cell_on hbx m4))
    refine hK.out _ _ ?_ (fun hHeld => ?_)
    · exact bcur
    clear hK K
    (try simp only [Act.put, List.setIfInBounds_toArray, List.set_cons_zero, List.set_cons_succ])
    refine wpAnyH_ready (rs := [3]) (by kernel_rfl) (by simp) ?_
    refine AllReadyH.cons (o := ?oi21) ?hi21 (fun K hK => ?hstep21) AllReadyH.nil
    case hi21 => (simp only [List.getElem?_toArray, List.getElem?_cons_succ, List.getElem?_cons_zero]; try rfl)
    (refine oper_app2 rfl (.tmp 4) (.tmp 6) 22 rfl w1.heap.size 46 Tryd.underlying22 info_co rfl (by decide) _ 0 [] rfl hmo cA cs.length cc (cs.flatMap coEl.cells) rfl (coEl.flat_len _) (hE.out _ (below_step b1 bcur)) (coEl.flat_one _) (by omega) (by omega) bcur.size ?_; intro v5 w5 hin5 hg5 hat5; have bcur := bcur.grown hg5 bcur.size (fun k hk => (own_lt hmo hk).1); (try have m0 := hg5.cell m0 (fun e => by have e := Option.some.inj e; dsimp only [Value.ownBlock] at e; omega)); (try have m1 := hg5.cell m1 (fun e => by have e := Option.some.inj e; dsimp only [Value.ownBlock] at e; omega)); (try have m2 := hg5.cell m2 (fun e => by have e := Option.some.inj e; dsimp only [Value.ownBlock] at e; omega)); (try have m3 := hg5.cell m3 (fun e => by have e := Option.some.inj e; dsimp only [Value.ownBlock] at e; omega)); (try have m4 := hg5.cell m4 (fun e => by have e := Option.some.inj e; dsimp only [Value.ownBlock] at e; omega)))
    refine hK.out _ _ ?_ (fun hHeld => ?_)
    · exact bcur
    clear hK K
    (try simp only [Act.put, List.setIfInBounds_toArray, List.set_cons_zero, List.set_cons_succ])
    refine wpAnyH_ready (rs := [6]) (by kernel_rfl) (by simp) ?_
    refine AllReadyH.cons (o := ?oi22) ?hi22 (fun K hK => ?hstep22) AllReadyH.nil
    case hi22 => (simp only [List.getElem?_toArray, List.getElem?_cons_succ, List.getElem?_cons_zero]; try rfl)
    (refine oper_app2 rfl (.tmp 7) (.tmp 9) 22 rfl w1.heap.size 46 Tryd.underlying22 info_co rfl (by decide) v5 (0 + cs.length) ([] ++ cs.flatMap coEl.cells) rfl hin5 (some ⟨_, 0, none⟩) 1 1 [.string (str nm), .slice pA ps.length pc, .int .i64 res, .int .i64 slots, .slice iA is.length ic] rfl rfl (rd_five m0 m1 m2 m3 m4) (by intro u hu; simp at hu; rcases hu with rfl | rfl | rfl | rfl | rfl <;> rfl) (by omega) (by omega) bcur.size ?_; intro v8 w8 hin8 hg8 hat8; rw [Nat.zero_add, List.nil_append] at hin8; obtain ⟨C8, q8, hv8, hq8, hq9, _⟩ := own_shape hin8; subst hv8; have bcur := bcur.grown hg8 bcur.size (fun k hk => (own_lt hin5 hk).1); have KR := hid (KW.out _ (below_step b1 bcur) _ _ _ _ rfl hin8 ⟨hq8, hq9⟩); clear hat8 hg8)
    refine hK.out _ _ ?_ (fun hHeld => ?_)
    · exact bcur
    clear hK K
    (try simp only [Act.put, List.setIfInBounds_toArray, List.set_cons_zero, List.set_cons_succ])
    refine wpAnyH_take (i := 9) (oi := ?oi23) (v := ?v23) ?hi23 (by kernel_rfl) (by kernel_rfl) (by kernel_rfl) ?hQ23 ?hy23 (by assumption) ?hrest23
    case hi23 => (simp only [List.getElem?_toArray, List.getElem?_cons_succ, List.getElem?_cons_zero]; try rfl)
    case hQ23 => exact fun _ _ _ h => h
    case hy23 =>
      refine Or.inl ⟨by rfl, ?_⟩
      (intro wq hSw; (try dsimp only at hSw); go_simp; try with_reducible rfl)
    (try simp only [Act.put, List.setIfInBounds_toArray, List.set_cons_zero, List.set_cons_succ])
    refine wpAnyH_ready (rs := [10]) (by kernel_rfl) (by simp) ?_
    refine AllReadyH.cons (o := ?oi24) ?hi24 (fun K hK => ?hstep24) AllReadyH.nil
    case hi24 => (simp only [List.getElem?_toArray, List.getElem?_cons_succ, List.getElem?_cons_zero]; try rfl)
    go_simp
    (refine KR.out.mono ?_; rintro e wx ⟨rfl, hbx⟩; have bcur := below_step bcur hbx)
    refine hK.out _ _ ?_ (fun hHeld => ?_)
    · exact bcur
    clear hK K
    (try simp only [Act.put, List.setIfInBounds_toArray, List.set_cons_zero, List.set_cons_succ])
    refine wpAnyH_take (i := 11) (oi := ?oi25) (v := ?v25) ?hi25 (by kernel_rfl) (by kernel_rfl) (by kernel_rfl) ?hQ25 ?hy25 (by assumption) ?hrest25
    case hi25 => (simp only [List.getElem?_toArray, List.getElem?_cons_succ, List.getElem?_cons_zero]; try rfl)
    case hQ25 => exact fun _ _ _ h => h
    case hy25 =>
      refine Or.inl ⟨by rfl, ?_⟩
      (intro wq hSw; (try dsimp only at hSw); go_simp; try with_reducible rfl)
    (try simp only [Act.put, List.setIfInBounds_toArray, List.set_cons_zero, List.set_cons_succ])
    refine wpAnyH_done (by kernel_rfl) ?_ _
    refine NoPanic.normal ?_
    (have bf := below_step b1 bcur; go_wp2_with fail; go_ret; exact ⟨rfl, bf⟩)
  exact AllReadyH.nil
end Go.Proofs.YtnkocbdbfkhgmaaDoor
