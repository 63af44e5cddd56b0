import Derived.Test.YtnkocbdbfkhgmaaDoorCodeN
import Derived.Shelf.SlicesE.Equal
/-! the ref's code: modules alike -/
namespace Go.Proofs.YtnkocbdbfkhgmaaDoor
open Go.RowKit Go.Cov
theorem neq_ins : NeqAt Tryd.prog 50 (fun x : ID => .agg #[.int .i64 x.1, .int .i64 x.2]) (fun x y => x.1 == y.1 && x.2 == y.2) := by
  refine ⟨fun x y w => ?_, GuardAt.agg _ (by kernel_rfl)⟩
  have u3 := Tryd.underlying48
  have a3 := Tryd.isAgg48
  have z3 := Tryd.sizeOf48
  have u2 := Tryd.underlying2
  have a2 := Tryd.isAgg2
  have z2 := Tryd.sizeOf2
  have hS : Tryd.prog.underlying 50 = some (.struct (Tryd.prog.fieldsOf 50)) := by kernel_rfl
  have hp : Tryd.prog.stoodInHeld 50 = false := by kernel_rfl
  rw [run_neq_struct, show (10000 : Nat) = 9999 + 1 from rfl, run_equalIn_agg w 9999 50 _ _ hS hp]
  simp only [Program.fieldsOf, Tryd.underlying50]
  go_simp
  by_cases h1 : x.fst = y.fst <;> by_cases h2 : x.snd = y.snd <;> simp [h1, h2]
noncomputable def sameMo (a b : MoD) : Bool := @decide (a = b) (Classical.propDecidable _)
theorem sameMo_iff {a b : MoD} : sameMo a b = true ↔ a = b := by unfold sameMo; exact @decide_eq_true_iff _ (Classical.propDecidable _)
theorem sameMo_no {a b : MoD} (h : a ≠ b) : sameMo a b = false := by
  cases hs : sameMo a b
  · rfl
  · exact absurd (sameMo_iff.1 hs) h
theorem list_ne {α : Type} {l m : List α} (k : Nat) (h1 : k < l.length) (h2 : k < m.length) (h : l[k] ≠ m[k]) : l ≠ m := fun e => by subst e; exact h rfl
theorem list_eq {α : Type} {l m : List α} (hl : l.length = m.length) (h : ∀ j, (h1 : j < l.length) → (h2 : j < m.length) → l[j] = m[j]) : l = m := List.ext_getElem hl (fun j h1 h2 => h j h1 h2)
set_option maxRecDepth 100000 in
set_option maxHeartbeats 25600000 in
theorem rsame_any {w : World} {a b : Mo} (ha : MoRd w a) (hb : MoRd w b) (la : a.ts.length ≤ 140737488351236) (lb : b.ts.length ≤ 140737488351236) :
    Calls Tryd.prog 16 #[.agg #[.slice a.cA a.cs.length a.cc, .slice a.tA a.ts.length a.tc], .agg #[.slice b.cA b.cs.length b.cc, .slice b.tA b.ts.length b.tc]] w fun e w' => e = .returned (.bool (sameMo a.data b.data)) ∧ Below w.heap.size w w' := by
  have acm := code_len ha.cc
  have bcm := code_len hb.cc
  have NQ := neq_ins
  obtain ⟨acA, acc, acs, atA, atc, ats⟩ := a
  obtain ⟨bcA, bcc, bcs, btA, btc, bts⟩ := b
  dsimp only at acm bcm la lb ⊢
  obtain ⟨qd, hqd⟩ : ∃ q, sameMo (⟨acA, acc, acs, atA, atc, ats⟩ : Mo).data (⟨bcA, bcc, bcs, btA, btc, bts⟩ : Mo).data = q := ⟨_, rfl⟩
  rw [hqd]
  replace hqd := hid hqd
  have b1 := below_alloc w (.cells #[.slice acA acs.length acc, .slice atA ats.length atc] 25)
  have RA := Row.new w [.slice acA acs.length acc, .slice atA ats.length atc] 25
  change Row (w.alloc (.cells #[.slice acA acs.length acc, .slice atA ats.length atc] 25)) _ _ at RA
  obtain ⟨w1, hw1⟩ : ∃ w1, w.alloc (.cells #[.slice acA acs.length acc, .slice atA ats.length atc] 25) = w1 := ⟨_, rfl⟩
  rw [hw1] at b1 RA
  have b2 := below_alloc w1 (.cells #[.slice bcA bcs.length bcc, .slice btA bts.length btc] 25)
  have RB := Row.new w1 [.slice bcA bcs.length bcc, .slice btA bts.length btc] 25
  change Row (w1.alloc (.cells #[.slice bcA bcs.length bcc, .slice btA bts.length btc] 25)) _ _ at RB
  obtain ⟨w2, hw2⟩ : ∃ w2, w1.alloc (.cells #[.slice bcA bcs.length bcc, .slice btA bts.length btc] 25) = w2 := ⟨_, rfl⟩
  rw [hw2] at b2 RB
  replace RA := RA.below b2
  have b12 := below_step b1 b2
  replace ha := ha.below b12
  replace hb := hb.below b12
  replace NQ := hid NQ
  replace ha := hid ha
  replace hb := hid hb
  go_enter Tryd.func16, Tryd.ntmps16
  go_upto_region 1 with fail
  clear hw2 b1 b2
  obtain ⟨kA, hkA⟩ : ∃ k, k = w.heap.size := ⟨_, rfl⟩
  obtain ⟨kB, hkB⟩ : ∃ k, k = w1.heap.size := ⟨_, rfl⟩
  rw [← hkA] at RA ⊢
  rw [← hkB] at RB ⊢
  clear hw1
  replace hkA := hid hkA
  replace hkB := hid hkB
  have A0 := (RA.2 0 _ rfl).1
  have A1 := (RA.2 1 _ rfl).1
  have B0 := (RB.2 0 _ rfl).1
  have B1 := (RB.2 1 _ rfl).1
  have RA' := hid RA
  have RB' := hid RB
  clear RA RB
  by_cases hcl : acs.length = bcs.length
  case neg =>
    have j1 : ((acs.length : Int) != (bcs.length : Int)) = true := by simp; omega
    have hf : qd = false := by
      rw [← hqd.out]
      exact sameMo_no (fun e => by
        have := congrArg (fun d : MoD => d.1.length) e
        unfold Mo.data at this
        simp at this
        exact hcl this)
    replace hcl := hid hcl
    replace hf := hid hf
    go_wp2_with fail
    go_ret
    exact ⟨by rw [hf.out]; rfl, b12⟩
  have j1 : ((acs.length : Int) != (bcs.length : Int)) = false := by simp; omega
  have KT := same_any (c := atc) (d := btc) (slEl_row ha.out.t) (slEl_row hb.out.t) (by rw [List.length_map]; exact la) (by rw [List.length_map]; exact lb)
  rw [List.length_map, List.length_map] at KT
  obtain ⟨qt, hqt⟩ : ∃ q, decide (ats.map SlR.l = bts.map SlR.l) = q := ⟨_, rfl⟩
  rw [hqt] at KT
  replace KT := hid KT
  replace hcl := hid hcl
  go_wp2_with fail
  refine KT.out.mono ?_
  rintro e w3 ⟨rfl, n3, hw3⟩
  have b3 : Below w2.heap.size w2 w3 := by rw [hw3]; exact (Below.refl _ _).trans ⟨rfl, rfl, rfl, Nat.le_refl _, fun _ _ => rfl⟩
  clear KT A0 A1 B0 B1 hw3
  cases qt
  case false =>
    have hf : qd = false := by
      rw [← hqd.out]
      exact sameMo_no (fun e => by
        have := congrArg (fun d : MoD => d.2) e
        unfold Mo.data at this
        exact (of_decide_eq_false hqt) this)
    replace hf := hid hf
    have b9 := below_step b12 b3
    go_wp2_with fail
    go_ret
    exact ⟨by rw [hf.out]; rfl, b9⟩
  have hte := hid (of_decide_eq_true hqt)
  clear hqt
  replace hqd := hqd.out
  have hno := hid (show (acs.map Co.data = bcs.map Co.data → False) → qd = false from fun hh => by rw [← hqd]; exact sameMo_no (fun e => hh (congrArg Prod.fst e)))
  have hyes := hid (show acs.map Co.data = bcs.map Co.data → qd = true from fun hh => by rw [← hqd]; exact sameMo_iff.2 (Prod.ext hh hte.out))
  clear hqd
  replace b12 := below_step b12 b3
  have RA := RA'.out.below b3
  have RB := RB'.out.below b3
  replace ha := hid (ha.out.below b3)
  replace hb := hid (hb.out.below b3)
  clear RA' RB' b3 hte
  have A0 := (RA.2 0 _ rfl).1
  have B0 := (RB.2 0 _ rfl).1
  have RA' := hid RA
  have RB' := hid RB
  clear RA RB
  go_wp2_with fail
  go_loopw [5] (fun i W => ∃ k : Nat, k ≤ acs.length ∧ i = .int .i64 k ∧ Hid (∀ j, (h1 : j < acs.length) → (h2 : j < bcs.length) → j < k → acs[j].data = bcs[j].data) ∧ Below w3.heap.size w3 W) (fun i _ => acs.length - (RowKit.intOf i).toNat)
  case atStart => exact ⟨0, by omega, rfl, hid (fun j _ _ hj => by omega), Below.refl _ _⟩
  case round =>
    obtain ⟨k, hk, rfl, hall, hb3⟩ := hrel
    have RA := RA'.out.below hb3
    have RB := RB'.out.below hb3
    clear A0 B0
    have A0 := (RA.2 0 _ rfl).1
    have B0 := (RB.2 0 _ rfl).1
    replace RA := hid RA
    replace RB := hid RB
    by_cases hlt : k < acs.length
    · have hlb : k < bcs.length := by have := hcl.out; omega
      have i0 : (0 : Int) ≤ k := by omega
      have i1 : (k : Int) < acs.length := by omega
      have i2 : (k : Int) < bcs.length := by omega
      obtain ⟨ad, rfl, x0, x1, x2, x3, x4⟩ := co_at (ha.out.c.below hb3) k hlt
      obtain ⟨bd, rfl, y0, y1, y2, y3, y4⟩ := co_at (hb.out.c.below hb3) k hlb
      have hxr := (ha.out.r _ (List.getElem_mem hlt)).below hb3
      have hyr := (hb.out.r _ (List.getElem_mem hlb)).below hb3
      have hstep := hid (show acs[k].data = bcs[k].data → ∀ j, (h1 : j < acs.length) → (h2 : j < bcs.length) → j < k + 1 → acs[j].data = bcs[j].data from fun e j h1 h2 hj => by
        by_cases hjk : j = k
        · subst hjk; exact e
        · exact hall.out j h1 h2 (by omega))
      have hdif := hid (show acs[k].data ≠ bcs[k].data → qd = false from fun e => hno.out (fun hh => by
        have := congrArg (fun l => l[k]?) hh
        simp only [List.getElem?_map, List.getElem?_eq_getElem hlt, List.getElem?_eq_getElem hlb, Option.map_some, Option.some.injEq] at this
        exact e this))
      generalize acs[k] = x at x0 x1 x2 x3 x4 hxr hstep hdif
      generalize bcs[k] = y at y0 y1 y2 y3 y4 hyr hstep hdif
      obtain ⟨xn, xpA, xpc, xps, xr, xz, xiA, xic, xis⟩ := x
      obtain ⟨yn, ypA, ypc, yps, yr, yz, yiA, yic, yis⟩ := y
      unfold Co.data at hstep hdif
      dsimp only at x0 x1 x2 x3 x4 y0 y1 y2 y3 y4 hstep hdif
      have bX := below_alloc wr (.cells #[.string (str xn), .slice xpA xps.length xpc, .int .i64 xr, .int .i64 xz, .slice xiA xis.length xic] 46)
      have RX := Row.new wr [.string (str xn), .slice xpA xps.length xpc, .int .i64 xr, .int .i64 xz, .slice xiA xis.length xic] 46
      change Row (wr.alloc (.cells #[.string (str xn), .slice xpA xps.length xpc, .int .i64 xr, .int .i64 xz, .slice xiA xis.length xic] 46)) _ _ at RX
      obtain ⟨wx, hwx⟩ : ∃ wx, wr.alloc (.cells #[.string (str xn), .slice xpA xps.length xpc, .int .i64 xr, .int .i64 xz, .slice xiA xis.length xic] 46) = wx := ⟨_, rfl⟩
      rw [hwx] at bX RX
      have y0' := cell_on bX y0
      have y1' := cell_on bX y1
      have y2' := cell_on bX y2
      have y3' := cell_on bX y3
      have y4' := cell_on bX y4
      have B0' := cell_on bX B0
      have bY := below_alloc wx (.cells #[.string (str yn), .slice ypA yps.length ypc, .int .i64 yr, .int .i64 yz, .slice yiA yis.length yic] 46)
      have RY := Row.new wx [.string (str yn), .slice ypA yps.length ypc, .int .i64 yr, .int .i64 yz, .slice yiA yis.length yic] 46
      change Row (wx.alloc (.cells #[.string (str yn), .slice ypA yps.length ypc, .int .i64 yr, .int .i64 yz, .slice yiA yis.length yic] 46)) _ _ at RY
      obtain ⟨wy, hwy⟩ : ∃ wy, wx.alloc (.cells #[.string (str yn), .slice ypA yps.length ypc, .int .i64 yr, .int .i64 yz, .slice yiA yis.length yic] 46) = wy := ⟨_, rfl⟩
      rw [hwy] at bY RY
      clear y0 y1 y2 y3 y4
      replace RX := hid RX
      replace RY := hid RY
      replace bX := hid bX
      replace bY := hid bY
      go_upto_region 8 with fail
      clear x0 x1 x2 x3 x4 y0' y1' y2' y3' y4' B0' A0 B0
      obtain ⟨kX, hkX⟩ : ∃ k, k = wr.heap.size := ⟨_, rfl⟩
      obtain ⟨kY, hkY⟩ : ∃ k, k = wx.heap.size := ⟨_, rfl⟩
      replace RX := RX.out.below bY.out
      replace RY := RY.out
      rw [← hkX] at RX ⊢
      rw [← hkY] at RY ⊢
      replace bX := below_step bX.out bY.out
      replace hb3 := below_step hb3 bX
      clear hwx hwy bY
      replace hxr := hid (hxr.below bX)
      replace hyr := hid (hyr.below bX)
      clear bX hkX hkY
      have X0 := (RX.2 0 _ rfl).1
      have X1 := (RX.2 1 _ rfl).1
      have X2 := (RX.2 2 _ rfl).1
      have X3 := (RX.2 3 _ rfl).1
      have X4 := (RX.2 4 _ rfl).1
      have Y0 := (RY.2 0 _ rfl).1
      have Y1 := (RY.2 1 _ rfl).1
      have Y2 := (RY.2 2 _ rfl).1
      have Y3 := (RY.2 3 _ rfl).1
      have Y4 := (RY.2 4 _ rfl).1
      replace RX := hid RX
      replace RY := hid RY
      replace hb3 := hid hb3
      replace b12 := hid b12
      have sb := str_beq xn yn
      by_cases h1 : xn = yn
      case neg =>
        rw [decide_eq_false h1] at sb
        have hq := hid (hdif.out (fun e => h1 (congrArg Prod.fst e)))
        replace h1 := hid h1
        clear hstep
        go_wp2_with fail
        go_ret
        exact ⟨by rw [hq.out]; rfl, below_step b12.out hb3.out⟩
      rw [decide_eq_true h1] at sb
      by_cases h2 : xr = yr
      case neg =>
        have j2 : (xr != yr) = true := by simpa using h2
        have hq := hid (hdif.out (fun e => h2 (congrArg (fun d : CD => d.2.2.1) e)))
        replace h1 := hid h1
        replace h2 := hid h2
        clear hstep
        go_wp2_with fail
        go_ret
        exact ⟨by rw [hq.out]; rfl, below_step b12.out hb3.out⟩
      have j2 : (xr != yr) = false := by simpa using h2
      by_cases h3 : xz = yz
      case neg =>
        have j3 : (xz != yz) = true := by simpa using h3
        have hq := hid (hdif.out (fun e => h3 (congrArg (fun d : CD => d.2.2.2.1) e)))
        replace h1 := hid h1
        replace h2 := hid h2
        replace h3 := hid h3
        clear hstep
        go_wp2_with fail
        go_ret
        exact ⟨by rw [hq.out]; rfl, below_step b12.out hb3.out⟩
      have j3 : (xz != yz) = false := by simpa using h3
      by_cases h4 : xps.length = yps.length
      case neg =>
        have j4 : ((xps.length : Int) != (yps.length : Int)) = true := by simp; omega
        have hq := hid (hdif.out (fun e => h4 (congrArg (fun d : CD => d.2.1.length) e)))
        replace h1 := hid h1
        replace h2 := hid h2
        replace h3 := hid h3
        replace h4 := hid h4
        clear hstep
        go_wp2_with fail
        go_ret
        exact ⟨by rw [hq.out]; rfl, below_step b12.out hb3.out⟩
      have j4 : ((xps.length : Int) != (yps.length : Int)) = false := by simp; omega
      by_cases h5 : xis.length = yis.length
      case neg =>
        have j5 : ((xis.length : Int) != (yis.length : Int)) = true := by simp; omega
        have hq := hid (hdif.out (fun e => h5 (congrArg (fun d : CD => d.2.2.2.2.length) e)))
        replace h1 := hid h1
        replace h2 := hid h2
        replace h3 := hid h3
        replace h4 := hid h4
        replace h5 := hid h5
        clear hstep
        go_wp2_with fail
        go_ret
        exact ⟨by rw [hq.out]; rfl, below_step b12.out hb3.out⟩
      have j5 : ((xis.length : Int) != (yis.length : Int)) = false := by simp; omega
      have xcm := code_len hxr.out.pc
      have xim := code_len hxr.out.ic
      dsimp only at xcm xim
      replace h1 := hid h1
      replace h2 := hid h2
      replace h3 := hid h3
      replace h4 := hid h4
      replace h5 := hid h5
      go_wp2_with fail
      go_loopw [8] (fun i W => ∃ j : Nat, j ≤ xps.length ∧ i = .int .i64 j ∧ Hid (∀ n, (g1 : n < xps.length) → (g2 : n < yps.length) → n < j → xps[n] = yps[n]) ∧ Below wy.heap.size wy W) (fun i _ => xps.length - (RowKit.intOf i).toNat)
      case atStart => exact ⟨0, by omega, rfl, hid (fun n _ _ hn => by omega), Below.refl _ _⟩
      case round =>
        obtain ⟨j, hj, rfl, hps, hb4⟩ := hrel
        have X1q := fun W (hW : Below wr.heap.size wr W) => cell_on (below_step hb4 hW) X1
        have Y1q := fun W (hW : Below wr.heap.size wr W) => cell_on (below_step hb4 hW) Y1
        have X1r := cell_on hb4 X1
        by_cases hlj : j < xps.length
        · have hlj2 : j < yps.length := by have := h4.out; omega
          obtain ⟨pd, hpd, px⟩ := ty_at (hxr.out.p.below hb4) j hlj
          obtain ⟨pe, hpe, py⟩ := ty_at (hyr.out.p.below hb4) j hlj2
          dsimp only at hpd hpe
          subst hpd hpe
          have i0' : (0 : Int) ≤ j := by omega
          have i1' : (j : Int) < xps.length := by omega
          have i2' : (j : Int) < yps.length := by omega
          have hnx := hid (show xps[j] = yps[j] → ∀ n, (g1 : n < xps.length) → (g2 : n < yps.length) → n < j + 1 → xps[n] = yps[n] from fun e n g1 g2 hn => by
            by_cases hnj : n = j
            · subst hnj; exact e
            · exact hps.out n g1 g2 (by omega))
          have hdx := hid (show xps[j] ≠ yps[j] → qd = false from fun e => hdif.out (fun hh => list_ne j hlj hlj2 e (congrArg (fun d : CD => d.2.1) hh)))
          generalize xps[j] = u at px hnx hdx
          generalize yps[j] = v at py hnx hdx
          have pxq := fun W (hW : Below wr.heap.size wr W) => cell_on hW px
          have pyq := fun W (hW : Below wr.heap.size wr W) => cell_on hW py
          obtain ⟨z, hz⟩ : ∃ z, (u != v) = z := ⟨_, rfl⟩
          go_upto_region 13 with fail
          have bcur := (Below.refl wr.heap.size wr).drew
          refine wp_region_noPanic ?_
          refine wp_region_held_drew (S := (fun W => Below wr.heap.size wr W)) (by kernel_rfl) ?_ (fun hHeld => ?_)
          · exact (Below.refl _ _).drew
          refine wpAnyH_take (i := 0) (oi := ?oi1) (v := ?v1) ?hi1 (by kernel_rfl) (by kernel_rfl) (by kernel_rfl) ?hQ1 ?hy1 (by assumption) ?hrest1
          case hi1 => (simp only [List.getElem?_toArray, List.getElem?_cons_zero]; try rfl)
          case hQ1 => exact fun _ _ _ h => h
          case hy1 =>
            refine Or.inl ⟨by rfl, ?_⟩
            (intro wq hSw; (try dsimp only at hSw); go_simp; try with_reducible rfl)
          (try simp only [Act.put, List.setIfInBounds_toArray, List.set_cons_zero, List.set_cons_succ])
          refine wpAnyH_take (i := 1) (oi := ?oi2) (v := ?v2) ?hi2 (by kernel_rfl) (by kernel_rfl) (by kernel_rfl) ?hQ2 ?hy2 (by assumption) ?hrest2
          case hi2 => (simp only [List.getElem?_toArray, List.getElem?_cons_succ, List.getElem?_cons_zero]; try rfl)
          case hQ2 => exact fun _ _ _ h => h
          case hy2 =>
            refine Or.inl ⟨by rfl, ?_⟩
            (intro wq hSw; (try dsimp only at hSw); go_simp; try with_reducible rfl)
          (try simp only [Act.put, List.setIfInBounds_toArray, List.set_cons_zero, List.set_cons_succ])
          refine wpAnyH_take (i := 2) (oi := ?oi3) (v := ?v3) ?hi3 (by kernel_rfl) (by kernel_rfl) (by kernel_rfl) ?hQ3 ?hy3 (by assumption) ?hrest3
          case hi3 => (simp only [List.getElem?_toArray, List.getElem?_cons_succ, List.getElem?_cons_zero]; try rfl)
          case hQ3 => exact fun _ _ _ h => h
          case hy3 =>
            refine Or.inl ⟨by rfl, ?_⟩
            (intro wq hSw; (try dsimp only at hSw); go_simp; try with_reducible rfl)
          (try simp only [Act.put, List.setIfInBounds_toArray, List.set_cons_zero, List.set_cons_succ])
          refine wpAnyH_take (i := 3) (oi := ?oi4) (v := ?v4) ?hi4 (by kernel_rfl) (by kernel_rfl) (by kernel_rfl) ?hQ4 ?hy4 (by assumption) ?hrest4
          case hi4 => (simp only [List.getElem?_toArray, List.getElem?_cons_succ, List.getElem?_cons_zero]; try rfl)
          case hQ4 => exact fun _ _ _ h => h
          case hy4 =>
            refine Or.inl ⟨by rfl, ?_⟩
            (intro wq hSw; (try dsimp only at hSw); go_simp; try with_reducible rfl)
          (try simp only [Act.put, List.setIfInBounds_toArray, List.set_cons_zero, List.set_cons_succ])
          refine wpAnyH_take (i := 4) (oi := ?oi5) (v := ?v5) ?hi5 (by kernel_rfl) (by kernel_rfl) (by kernel_rfl) ?hQ5 ?hy5 (by assumption) ?hrest5
          case hi5 => (simp only [List.getElem?_toArray, List.getElem?_cons_succ, List.getElem?_cons_zero]; try rfl)
          case hQ5 => exact fun _ _ _ h => h
          case hy5 =>
            refine Or.inl ⟨by rfl, ?_⟩
            (intro wq hSw; (try dsimp only at hSw); go_simp; try with_reducible rfl)
          (try simp only [Act.put, List.setIfInBounds_toArray, List.set_cons_zero, List.set_cons_succ])
          refine wpAnyH_take (i := 5) (oi := ?oi6) (v := ?v6) ?hi6 (by kernel_rfl) (by kernel_rfl) (by kernel_rfl) ?hQ6 ?hy6 (by assumption) ?hrest6
          case hi6 => (simp only [List.getElem?_toArray, List.getElem?_cons_succ, List.getElem?_cons_zero]; try rfl)
          case hQ6 => exact fun _ _ _ h => h
          case hy6 =>
            refine Or.inl ⟨by rfl, ?_⟩
            (intro wq hSw; (try dsimp only at hSw); go_simp; try with_reducible rfl)
          (try simp only [Act.put, List.setIfInBounds_toArray, List.set_cons_zero, List.set_cons_succ])
          refine wpAnyH_take (i := 6) (oi := ?oi7) (v := ?v7) ?hi7 (by kernel_rfl) (by kernel_rfl) (by kernel_rfl) ?hQ7 ?hy7 (by assumption) ?hrest7
          case hi7 => (simp only [List.getElem?_toArray, List.getElem?_cons_succ, List.getElem?_cons_zero]; try rfl)
          case hQ7 => exact fun _ _ _ h => h
          case hy7 =>
            refine Or.inl ⟨by rfl, ?_⟩
            (intro wq hSw; (try dsimp only at hSw); go_simp; try with_reducible rfl)
          (try simp only [Act.put, List.setIfInBounds_toArray, List.set_cons_zero, List.set_cons_succ])
          refine wpAnyH_take (i := 7) (oi := ?oi8) (v := ?v8) ?hi8 (by kernel_rfl) (by kernel_rfl) (by kernel_rfl) ?hQ8 ?hy8 (by assumption) ?hrest8
          case hi8 => (simp only [List.getElem?_toArray, List.getElem?_cons_succ, List.getElem?_cons_zero]; try rfl)
          case hQ8 => exact fun _ _ _ h => h
          case hy8 =>
            refine Or.inl ⟨by rfl, ?_⟩
            (intro wq hSw; (try dsimp only at hSw); go_simp; try with_reducible rfl)
          (try simp only [Act.put, List.setIfInBounds_toArray, List.set_cons_zero, List.set_cons_succ])
          refine wpAnyH_take (i := 8) (oi := ?oi9) (v := ?v9) ?hi9 (by kernel_rfl) (by kernel_rfl) (by kernel_rfl) ?hQ9 ?hy9 (by assumption) ?hrest9
          case hi9 => (simp only [List.getElem?_toArray, List.getElem?_cons_succ, List.getElem?_cons_zero]; try rfl)
          case hQ9 => exact fun _ _ _ h => h
          case hy9 =>
            refine Or.inl ⟨by rfl, ?_⟩
            (intro wq hSw; (try dsimp only at hSw); go_simp; try with_reducible rfl)
          (try simp only [Act.put, List.setIfInBounds_toArray, List.set_cons_zero, List.set_cons_succ])
          refine wpAnyH_take (i := 9) (oi := ?oi10) (v := ?v10) ?hi10 (by kernel_rfl) (by kernel_rfl) (by kernel_rfl) ?hQ10 ?hy10 (by assumption) ?hrest10
          case hi10 => (simp only [List.getElem?_toArray, List.getElem?_cons_succ, List.getElem?_cons_zero]; try rfl)
          case hQ10 => exact fun _ _ _ h => h
          case hy10 =>
            refine Or.inl ⟨by rfl, ?_⟩
            (intro wq hSw; (try dsimp only at hSw); go_simp; try with_reducible rfl)
          (try simp only [Act.put, List.setIfInBounds_toArray, List.set_cons_zero, List.set_cons_succ])
          refine wpAnyH_take (i := 10) (oi := ?oi11) (v := ?v11) ?hi11 (by kernel_rfl) (by kernel_rfl) (by kernel_rfl) ?hQ11 ?hy11 (by assumption) ?hrest11
          case hi11 => (simp only [List.getElem?_toArray, List.getElem?_cons_succ, List.getElem?_cons_zero]; try rfl)
          case hQ11 => exact fun _ _ _ h => h
          case hy11 =>
            refine Or.inl ⟨by rfl, ?_⟩
            (intro wq hSw; (try dsimp only at hSw); go_simp; try with_reducible rfl)
          (try simp only [Act.put, List.setIfInBounds_toArray, List.set_cons_zero, List.set_cons_succ])
          refine wpAnyH_done (by kernel_rfl) ?_ _
          refine NoPanic.normal ?_
          (skip)
          have b9 := below_step hb4 bcur
          cases z
          case true =>
            have hq := hid (hdx.out (by simpa using hz))
            clear hz hnx
            go_wp2_with fail
            go_ret
            exact ⟨by rw [hq.out]; rfl, below_step b12.out (below_step hb3.out b9)⟩
          case false =>
            have hnx2 := hid (hnx.out (by simpa using hz))
            clear hz hnx
            go_wp2_with fail
            go_roundw
            case rel => exact ⟨j + 1, by omega, by go_num, hnx2, b9⟩
            case measure => simp [RowKit.intOf]; omega
        · obtain rfl : j = xps.length := by omega
          have hpe := hid (list_eq h4.out (fun n g1 g2 => hps.out n g1 g2 g1))
          have X4r := cell_on hb4 X4
          have Y4r := cell_on hb4 Y4
          obtain ⟨w7, hw7⟩ : ∃ x : World, x = wr := ⟨_, rfl⟩
          rw [← hw7] at hb4 X1q Y1q X1r X4r Y4r ⊢
          clear hw7 hps Y1q
          go_wp2_with fail
          clear X1q X1r
          go_loopw [9] (fun i W => ∃ j : Nat, j ≤ xis.length ∧ i = .int .i64 j ∧ Hid (∀ n, (g1 : n < xis.length) → (g2 : n < yis.length) → n < j → xis[n] = yis[n]) ∧ Below w7.heap.size w7 W) (fun i _ => xis.length - (RowKit.intOf i).toNat)
          case atStart => exact ⟨0, by omega, rfl, hid (fun n _ _ hn => by omega), Below.refl _ _⟩
          case round =>
            obtain ⟨j, hj, rfl, his, hb5⟩ := hrel
            have hb6 := below_step hb4 hb5
            have X4q := fun W (hW : Below wr.heap.size wr W) => cell_on (below_step hb5 hW) X4r
            have Y4q := fun W (hW : Below wr.heap.size wr W) => cell_on (below_step hb5 hW) Y4r
            have X4s := cell_on hb5 X4r
            by_cases hlj : j < xis.length
            · have hlj2 : j < yis.length := by have := h5.out; omega
              obtain ⟨pd, hpd, px, px2⟩ := ins_at (hxr.out.i.below hb6) j hlj
              obtain ⟨pe, hpe2, py, py2⟩ := ins_at (hyr.out.i.below hb6) j hlj2
              dsimp only at hpd hpe2
              subst hpd hpe2
              have i0' : (0 : Int) ≤ j := by omega
              have i1' : (j : Int) < xis.length := by omega
              have i2' : (j : Int) < yis.length := by omega
              have hnx := hid (show xis[j] = yis[j] → ∀ n, (g1 : n < xis.length) → (g2 : n < yis.length) → n < j + 1 → xis[n] = yis[n] from fun e n g1 g2 hn => by
                by_cases hnj : n = j
                · subst hnj; exact e
                · exact his.out n g1 g2 (by omega))
              have hdx := hid (show xis[j] ≠ yis[j] → qd = false from fun e => hdif.out (fun hh => list_ne j hlj hlj2 e (congrArg (fun d : CD => d.2.2.2.2) hh)))
              generalize xis[j] = u at px px2 hnx hdx
              generalize yis[j] = v at py py2 hnx hdx
              have nq := NQ.out.1 u v
              have hnx' := hid (show (u.1 == v.1 && u.2 == v.2) = true → u = v from fun e => by
                rw [Bool.and_eq_true, beq_iff_eq, beq_iff_eq] at e
                exact Prod.ext e.1 e.2)
              have hdx' := hid (show (u.1 == v.1 && u.2 == v.2) = false → u ≠ v from fun e hh => by subst hh; simp at e)
              obtain ⟨z, hz⟩ : ∃ z, (u.1 == v.1 && u.2 == v.2) = z := ⟨_, rfl⟩
              dsimp only at nq
              rw [hz] at nq
              obtain ⟨u1, u2⟩ := u
              obtain ⟨v1, v2⟩ := v
              dsimp only at px px2 py py2
              replace nq : ∀ (w : World), (binOp .neq 50 (.agg #[.int .i64 u1, .int .i64 u2]) (.agg #[.int .i64 v1, .int .i64 v2])).run Tryd.prog w = .ok (.bool (!z)) w := nq
              replace ng : ∀ (op : BinOp) (a b : Operand) (w : World), (eqGuard op 50 a b (.agg #[.int .i64 u1, .int .i64 u2]) (.agg #[.int .i64 v1, .int .i64 v2])).run Tryd.prog w = .ok () w := fun op a b w => NQ.out.2 op a b (u1, u2) (v1, v2) w
              have hz' := hid hz
              clear hz
              have pxq := fun W (hW : Below wr.heap.size wr W) => cell_on hW px
              have pyq := fun W (hW : Below wr.heap.size wr W) => cell_on hW py
              have px2q := fun W (hW : Below wr.heap.size wr W) => cell_on hW px2
              have py2q := fun W (hW : Below wr.heap.size wr W) => cell_on hW py2
              clear px px2 py py2
              go_upto_region 18 with fail
              have bcur := (Below.refl wr.heap.size wr).drew
              refine wp_region_noPanic ?_
              refine wp_region_held_drew (S := (fun W => Below wr.heap.size wr W)) (by kernel_rfl) ?_ (fun hHeld => ?_)
              · exact (Below.refl _ _).drew
              refine wpAnyH_take (i := 0) (oi := ?oi12) (v := ?v12) ?hi12 (by kernel_rfl) (by kernel_rfl) (by kernel_rfl) ?hQ12 ?hy12 (by assumption) ?hrest12
              case hi12 => (simp only [List.getElem?_toArray, List.getElem?_cons_zero]; try rfl)
              case hQ12 => exact fun _ _ _ h => h
              case hy12 =>
                refine Or.inl ⟨by rfl, ?_⟩
                (intro wq hSw; (try dsimp only at hSw); go_simp; try with_reducible rfl)
              (try simp only [Act.put, List.setIfInBounds_toArray, List.set_cons_zero, List.set_cons_succ])
              refine wpAnyH_take (i := 1) (oi := ?oi13) (v := ?v13) ?hi13 (by kernel_rfl) (by kernel_rfl) (by kernel_rfl) ?hQ13 ?hy13 (by assumption) ?hrest13
              case hi13 => (simp only [List.getElem?_toArray, List.getElem?_cons_succ, List.getElem?_cons_zero]; try rfl)
              case hQ13 => exact fun _ _ _ h => h
              case hy13 =>
                refine Or.inl ⟨by rfl, ?_⟩
                (intro wq hSw; (try dsimp only at hSw); go_simp; try with_reducible rfl)
              (try simp only [Act.put, List.setIfInBounds_toArray, List.set_cons_zero, List.set_cons_succ])
              refine wpAnyH_take (i := 2) (oi := ?oi14) (v := ?v14) ?hi14 (by kernel_rfl) (by kernel_rfl) (by kernel_rfl) ?hQ14 ?hy14 (by assumption) ?hrest14
              case hi14 => (simp only [List.getElem?_toArray, List.getElem?_cons_succ, List.getElem?_cons_zero]; try rfl)
              case hQ14 => exact fun _ _ _ h => h
              case hy14 =>
                refine Or.inl ⟨by rfl, ?_⟩
                (intro wq hSw; (try dsimp only at hSw); go_simp; try with_reducible rfl)
              (try simp only [Act.put, List.setIfInBounds_toArray, List.set_cons_zero, List.set_cons_succ])
              refine wpAnyH_take (i := 3) (oi := ?oi15) (v := ?v15) ?hi15 (by kernel_rfl) (by kernel_rfl) (by kernel_rfl) ?hQ15 ?hy15 (by assumption) ?hrest15
              case hi15 => (simp only [List.getElem?_toArray, List.getElem?_cons_succ, List.getElem?_cons_zero]; try rfl)
              case hQ15 => exact fun _ _ _ h => h
              case hy15 =>
                refine Or.inl ⟨by rfl, ?_⟩
                (intro wq hSw; (try dsimp only at hSw); go_simp; try with_reducible rfl)
              (try simp only [Act.put, List.setIfInBounds_toArray, List.set_cons_zero, List.set_cons_succ])
              refine wpAnyH_take (i := 4) (oi := ?oi16) (v := ?v16) ?hi16 (by kernel_rfl) (by kernel_rfl) (by kernel_rfl) ?hQ16 ?hy16 (by assumption) ?hrest16
              case hi16 => (simp only [List.getElem?_toArray, List.getElem?_cons_succ, List.getElem?_cons_zero]; try rfl)
              case hQ16 => exact fun _ _ _ h => h
              case hy16 =>
                refine Or.inl ⟨by rfl, ?_⟩
                (intro wq hSw; (try dsimp only at hSw); go_simp; try with_reducible rfl)
              (try simp only [Act.put, List.setIfInBounds_toArray, List.set_cons_zero, List.set_cons_succ])
              refine wpAnyH_take (i := 5) (oi := ?oi17) (v := ?v17) ?hi17 (by kernel_rfl) (by kernel_rfl) (by kernel_rfl) ?hQ17 ?hy17 (by assumption) ?hrest17
              case hi17 => (simp only [List.getElem?_toArray, List.getElem?_cons_succ, List.getElem?_cons_zero]; try rfl)
              case hQ17 => exact fun _ _ _ h => h
              case hy17 =>
                refine Or.inl ⟨by rfl, ?_⟩
                (intro wq hSw; (try dsimp only at hSw); go_simp; try with_reducible rfl)
              (try simp only [Act.put, List.setIfInBounds_toArray, List.set_cons_zero, List.set_cons_succ])
              refine wpAnyH_take (i := 6) (oi := ?oi18) (v := ?v18) ?hi18 (by kernel_rfl) (by kernel_rfl) (by kernel_rfl) ?hQ18 ?hy18 (by assumption) ?hrest18
              case hi18 => (simp only [List.getElem?_toArray, List.getElem?_cons_succ, List.getElem?_cons_zero]; try rfl)
              case hQ18 => exact fun _ _ _ h => h
              case hy18 =>
                refine Or.inl ⟨by rfl, ?_⟩
                (intro wq hSw; (try dsimp only at hSw); go_simp; try with_reducible rfl)
              (try simp only [Act.put, List.setIfInBounds_toArray, List.set_cons_zero, List.set_cons_succ])
              refine wpAnyH_take (i := 7) (oi := ?oi19) (v := ?v19) ?hi19 (by kernel_rfl) (by kernel_rfl) (by kernel_rfl) ?hQ19 ?hy19 (by assumption) ?hrest19
              case hi19 => (simp only [List.getElem?_toArray, List.getElem?_cons_succ, List.getElem?_cons_zero]; try rfl)
              case hQ19 => exact fun _ _ _ h => h
              case hy19 =>
                refine Or.inl ⟨by rfl, ?_⟩
                (intro wq hSw; (try dsimp only at hSw); go_simp; try with_reducible rfl)
              (try simp only [Act.put, List.setIfInBounds_toArray, List.set_cons_zero, List.set_cons_succ])
              refine wpAnyH_take (i := 8) (oi := ?oi20) (v := ?v20) ?hi20 (by kernel_rfl) (by kernel_rfl) (by kernel_rfl) ?hQ20 ?hy20 (by assumption) ?hrest20
              case hi20 => (simp only [List.getElem?_toArray, List.getElem?_cons_succ, List.getElem?_cons_zero]; try rfl)
              case hQ20 => exact fun _ _ _ h => h
              case hy20 =>
                refine Or.inl ⟨by rfl, ?_⟩
                (intro wq hSw; (try dsimp only at hSw); go_simp; try with_reducible rfl)
              (try simp only [Act.put, List.setIfInBounds_toArray, List.set_cons_zero, List.set_cons_succ])
              refine wpAnyH_take (i := 9) (oi := ?oi21) (v := ?v21) ?hi21 (by kernel_rfl) (by kernel_rfl) (by kernel_rfl) ?hQ21 ?hy21 (by assumption) ?hrest21
              case hi21 => (simp only [List.getElem?_toArray, List.getElem?_cons_succ, List.getElem?_cons_zero]; try rfl)
              case hQ21 => exact fun _ _ _ h => h
              case hy21 =>
                refine Or.inl ⟨by rfl, ?_⟩
                (intro wq hSw; (try dsimp only at hSw); go_simp; try with_reducible rfl)
              (try simp only [Act.put, List.setIfInBounds_toArray, List.set_cons_zero, List.set_cons_succ])
              refine wpAnyH_take (i := 10) (oi := ?oi22) (v := ?v22) ?hi22 (by kernel_rfl) (by kernel_rfl) (by kernel_rfl) ?hQ22 ?hy22 (by assumption) ?hrest22
              case hi22 => (simp only [List.getElem?_toArray, List.getElem?_cons_succ, List.getElem?_cons_zero]; try rfl)
              case hQ22 => exact fun _ _ _ h => h
              case hy22 =>
                refine Or.inl ⟨by rfl, ?_⟩
                (intro wq hSw; (try dsimp only at hSw); go_simp; try with_reducible rfl)
              (try simp only [Act.put, List.setIfInBounds_toArray, List.set_cons_zero, List.set_cons_succ])
              refine wpAnyH_done (by kernel_rfl) ?_ _
              refine NoPanic.normal ?_
              (skip)
              have b9 := below_step hb6 bcur
              have b10 := below_step hb5 bcur
              cases z
              case false =>
                have hq := hid (hdx.out (hdx'.out hz'.out))
                clear hnx nq ng
                go_wp2_with fail
                go_ret
                exact ⟨by rw [hq.out]; rfl, below_step b12.out (below_step hb3.out b9)⟩
              case true =>
                have hnx2 := hid (hnx.out (hnx'.out hz'.out))
                clear hnx nq ng
                go_wp2_with fail
                go_roundw
                case rel => exact ⟨j + 1, by omega, by go_num, hnx2, b10⟩
                case measure => simp [RowKit.intOf]; omega
            · obtain rfl : j = xis.length := by omega
              have hie := hid (list_eq h5.out (fun n g1 g2 => his.out n g1 g2 g1))
              have hall2 := hid (hstep.out (Prod.ext h1.out (Prod.ext hpe.out (Prod.ext h2.out (Prod.ext h3.out hie.out)))))
              have b9 := below_step hb3.out hb6
              clear X4q Y4q
              go_wp2_with fail
              go_roundw
              case rel => exact ⟨k + 1, by omega, by go_num, hall2, b9⟩
              case measure => simp [RowKit.intOf]; omega
    · obtain rfl : k = acs.length := by omega
      have hq := hid (hyes.out (list_eq (by rw [List.length_map, List.length_map]; exact hcl.out) (fun j g1 g2 => by
        rw [List.getElem_map, List.getElem_map]
        exact hall.out j (by simpa using g1) (by simpa using g2) (by simpa using g1))))
      go_wp2_with fail
      go_ret
      exact ⟨by rw [hq.out]; rfl, below_step b12 hb3⟩
end Go.Proofs.YtnkocbdbfkhgmaaDoor
