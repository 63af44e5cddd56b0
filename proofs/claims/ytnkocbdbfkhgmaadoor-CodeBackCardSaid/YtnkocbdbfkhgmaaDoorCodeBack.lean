import Derived.Test.YtnkocbdbfkhgmaaDoorCodeO
import Derived.Test.YtnkocbdbfkhgmaaDoorCodeKept
import Derived.Test.YtnkocbdbfkhgmaaDoorPlain1
/-! CodeBack: a right module's bytes are read as it was; unlike modules have unlike bytes. -/
namespace Go.Proofs.YtnkocbdbfkhgmaaDoor
open Go.RowKit Go.Cov
theorem put_inj {m o : MoD} (hm : rightMo m = true) (im : intMo m) (ho : rightMo o = true) (io : intMo o) (h : putMo m = putMo o) : m = o := by
  have h1 := mod_back hm im
  rw [h, mod_back ho io] at h1
  exact (congrArg Prod.fst h1).symm
theorem right_ts {m : Mo} (h : rightMo m.data = true) : m.ts.length ≤ 140737488351236 := by
  have := (rightMo_facts h).2.1
  unfold Mo.data at this
  simp at this
  omega
set_option maxRecDepth 100000 in
set_option maxHeartbeats 25600000 in
theorem back_law {w : World} {m o : Mo} (hm : MoRd w m) (ho : MoRd w o) (im : intMo m.data) (io : intMo o.data) (ht : STab w) :
    Calls Tryd.prog 4 #[.agg #[.slice m.cA m.cs.length m.cc, .slice m.tA m.ts.length m.tc], .agg #[.slice o.cA o.cs.length o.cc, .slice o.tA o.ts.length o.tc]] w fun e w' => e = .returned (.bool true) ∧ Below w.heap.size w w' := by
  replace ht := hid ht
  obtain ⟨acA, acc, acs, atA, atc, ats⟩ := m
  obtain ⟨bcA, bcc, bcs, btA, btc, bts⟩ := o
  dsimp only
  have b1 := below_alloc w (.cells #[.slice acA acs.length acc, .slice atA ats.length atc] 25)
  have RA := Row.new w [.slice acA acs.length acc, .slice atA ats.length atc] 25
  change Row (w.alloc (.cells #[.slice acA acs.length acc, .slice atA ats.length atc] 25)) _ _ at RA
  obtain ⟨w1, hw1⟩ : ∃ w1, w.alloc (.cells #[.slice acA acs.length acc, .slice atA ats.length atc] 25) = w1 := ⟨_, rfl⟩
  rw [hw1] at b1 RA
  have b2 := below_alloc w1 (.cells #[.slice bcA bcs.length bcc, .slice btA bts.length btc] 25)
  have RB := Row.new w1 [.slice bcA bcs.length bcc, .slice btA bts.length btc] 25
  change Row (w1.alloc (.cells #[.slice bcA bcs.length bcc, .slice btA bts.length btc] 25)) _ _ at RB
  obtain ⟨w2, hw2⟩ : ∃ w2, w1.alloc (.cells #[.slice bcA bcs.length bcc, .slice btA bts.length btc] 25) = w2 := ⟨_, rfl⟩
  rw [hw2] at b2 RB
  replace RA := hid (RA.below b2)
  replace RB := hid RB
  have b0 := below_step b1 b2
  replace hm := hid (hm.below b0)
  replace ho := hid (ho.below b0)
  replace ht := hid (ht.out.below b0)
  go_enter Tryd.func4, Tryd.ntmps4
  go_upto_region 1 with fail
  clear hw2 b1 b2
  obtain ⟨kA, hkA⟩ : ∃ k, k = w.heap.size := ⟨_, rfl⟩
  obtain ⟨kB, hkB⟩ : ∃ k, k = w1.heap.size := ⟨_, rfl⟩
  rw [← hkA] at RA ⊢
  rw [← hkB] at RB ⊢
  clear hw1
  replace hkA := hid hkA
  replace hkB := hid hkB
  go_wp2_with fail
  refine (head_any w2 ht.out).mono ?_
  rintro e w3 ⟨rfl, hb⟩
  clear ht
  replace RA := hid (RA.out.below hb)
  replace RB := hid (RB.out.below hb)
  replace hm := hid (hm.out.below hb)
  replace ho := hid (ho.out.below hb)
  replace b0 := below_step b0 hb
  clear hb
  have K := great_any hm.out
  dsimp only at K
  replace K := hid K
  have A0 := (RA.out.2 0 _ rfl).1
  have A1 := (RA.out.2 1 _ rfl).1
  go_wp2_with fail
  refine K.out.mono ?_
  rintro e w4 ⟨q, rfl, hb⟩
  clear K A0 A1
  replace RA := hid (RA.out.below hb)
  replace RB := hid (RB.out.below hb)
  replace hm := hid (hm.out.below hb)
  replace ho := hid (ho.out.below hb)
  replace b0 := below_step b0 hb
  clear hb
  cases q
  case true =>
    go_wp2_with fail
    go_ret
    exact ⟨rfl, b0⟩
  have K := great_any ho.out
  dsimp only at K
  replace K := hid K
  have B0 := (RB.out.2 0 _ rfl).1
  have B1 := (RB.out.2 1 _ rfl).1
  go_wp2_with fail
  refine K.out.mono ?_
  rintro e w5 ⟨q, rfl, hb⟩
  clear K B0 B1
  replace RA := hid (RA.out.below hb)
  replace RB := hid (RB.out.below hb)
  replace hm := hid (hm.out.below hb)
  replace ho := hid (ho.out.below hb)
  replace b0 := below_step b0 hb
  clear hb
  cases q
  case true =>
    go_wp2_with fail
    go_ret
    exact ⟨rfl, b0⟩
  have KP := put_any hm.out
  dsimp only at KP
  obtain ⟨ra, hra⟩ : ∃ r, rightMo (⟨acA, acc, acs, atA, atc, ats⟩ : Mo).data = r := ⟨_, rfl⟩
  cases ra
  case false =>
    rw [bytesMo_no hra] at KP
    replace KP := hid KP
    have A0 := (RA.out.2 0 _ rfl).1
    have A1 := (RA.out.2 1 _ rfl).1
    go_wp2_with fail
    refine KP.out.mono ?_
    rintro e w6 ⟨v6, rfl, own6, hb⟩
    clear KP A0 A1
    obtain ⟨A6, c6, rfl, _⟩ := own_shape own6
    have own7 := hid own6
    clear own6
    replace RA := hid (RA.out.below hb)
    replace RB := hid (RB.out.below hb)
    replace hm := hid (hm.out.below hb)
    replace ho := hid (ho.out.below hb)
    replace b0 := below_step b0 hb
    clear hb
    have KR := right_any hm.out
    rw [hra] at KR
    dsimp only at KR
    replace KR := hid KR
    replace hra := hid hra
    have A0 := (RA.out.2 0 _ rfl).1
    have A1 := (RA.out.2 1 _ rfl).1
    go_wp2_with fail
    refine KR.out.mono ?_
    rintro e w7 ⟨rfl, hb⟩
    have b9 := below_step b0 hb
    clear KR A0 A1
    go_wp2_with fail
    go_ret
    exact ⟨rfl, b9⟩
  rw [bytesMo_ok hra] at KP
  have hback := mod_back hra im
  have hle := putMo_le hra
  have htsa := right_ts hra
  obtain ⟨x, hx⟩ : ∃ x, putMo (⟨acA, acc, acs, atA, atc, ats⟩ : Mo).data = x := ⟨_, rfl⟩
  rw [hx] at KP hback hle
  dsimp only at KP htsa
  replace KP := hid KP
  replace hra := hid hra
  replace hback := hid hback
  replace hx := hid hx
  have A0 := (RA.out.2 0 _ rfl).1
  have A1 := (RA.out.2 1 _ rfl).1
  go_wp2_with fail
  refine KP.out.mono ?_
  rintro e w6 ⟨v6, rfl, own6, hb⟩
  clear KP A0 A1
  obtain ⟨A6, c6, rfl, hc6, _, _⟩ := own_shape own6
  have X := hid (own_rd own6)
  clear own6
  replace RA := hid (RA.out.below hb)
  replace RB := hid (RB.out.below hb)
  replace hm := hid (hm.out.below hb)
  replace ho := hid (ho.out.below hb)
  replace b0 := below_step b0 hb
  clear hb
  have KR := right_any hm.out
  rw [hra.out] at KR
  dsimp only at KR
  replace KR := hid KR
  have A0 := (RA.out.2 0 _ rfl).1
  have A1 := (RA.out.2 1 _ rfl).1
  go_wp2_with fail
  refine KR.out.mono ?_
  rintro e w7 ⟨rfl, hb⟩
  clear KR A0 A1
  replace X := hid (X.out.below hb)
  replace RA := hid (RA.out.below hb)
  replace RB := hid (RB.out.below hb)
  replace hm := hid (hm.out.below hb)
  replace ho := hid (ho.out.below hb)
  replace b0 := below_step b0 hb
  clear hb
  have KG := get_any X.out hc6 (by omega)
  rw [hback.out] at KG
  replace KG := hid KG
  go_wp2_with fail
  refine KG.out.mono ?_
  rintro e w8 ⟨m8, rfl, hd8, hr8, hb⟩
  clear KG
  replace X := hid (X.out.below hb)
  replace RA := hid (RA.out.below hb)
  replace RB := hid (RB.out.below hb)
  replace hm := hid (hm.out.below hb)
  replace ho := hid (ho.out.below hb)
  replace b0 := below_step b0 hb
  clear hb
  obtain ⟨ccA, ccc, ccs, ctA, ctc, cts⟩ := m8
  have hra8 : rightMo (⟨ccA, ccc, ccs, ctA, ctc, cts⟩ : Mo).data = true := by rw [hd8]; exact hra.out
  have htsc := right_ts hra8
  dsimp only at htsc ⊢
  have bC := below_alloc w8 (.cells #[.slice ccA ccs.length ccc, .slice ctA cts.length ctc] 25)
  have RC := Row.new w8 [.slice ccA ccs.length ccc, .slice ctA cts.length ctc] 25
  replace RC := hid RC
  replace hd8 := hid hd8
  replace hra8 := hid hra8
  go_upto_region 10 with fail
  replace RC := RC.out
  change Row (w8.alloc (.cells #[.slice ccA ccs.length ccc, .slice ctA cts.length ctc] 25)) _ _ at RC
  obtain ⟨kC, hkC⟩ : ∃ k, k = w8.heap.size := ⟨_, rfl⟩
  generalize w8.alloc (.cells #[.slice ccA ccs.length ccc, .slice ctA cts.length ctc] 25) = w9 at bC RC ⊢
  rw [← hkC] at RC ⊢
  replace RC := hid RC
  replace hkC := hid hkC
  replace X := hid (X.out.below bC)
  replace hr8 := hid (hr8.below bC)
  replace RA := hid (RA.out.below bC)
  replace RB := hid (RB.out.below bC)
  replace hm := hid (hm.out.below bC)
  replace ho := hid (ho.out.below bC)
  replace b0 := below_step b0 bC
  clear bC
  have KP := put_any ho.out
  dsimp only at KP
  obtain ⟨rb, hrb⟩ : ∃ r, rightMo (⟨bcA, bcc, bcs, btA, btc, bts⟩ : Mo).data = r := ⟨_, rfl⟩
  obtain ⟨⟨y, ey⟩, hy⟩ : ∃ q, bytesMo (⟨bcA, bcc, bcs, btA, btc, bts⟩ : Mo).data = q := ⟨_, rfl⟩
  rw [hy] at KP
  replace KP := hid KP
  replace hy := hid hy
  have B0 := (RB.out.2 0 _ rfl).1
  have B1 := (RB.out.2 1 _ rfl).1
  go_wp2_with fail
  refine KP.out.mono ?_
  rintro e w10 ⟨v10, rfl, own10, hb⟩
  clear KP B0 B1
  obtain ⟨A10, c10, rfl, hc10, _, _⟩ := own_shape own10
  have Y := hid (own_rd own10)
  clear own10
  replace X := hid (X.out.below hb)
  replace RC := hid (RC.out.below hb)
  replace hr8 := hid (hr8.out.below hb)
  replace RA := hid (RA.out.below hb)
  replace RB := hid (RB.out.below hb)
  replace hm := hid (hm.out.below hb)
  replace ho := hid (ho.out.below hb)
  replace b0 := below_step b0 hb
  clear hb
  have KS1 := hid (fun W (hW : Below w10.heap.size w10 W) => rsame_any (hr8.out.below hW) (hm.out.below hW) htsc htsa)
  have cx := fun W (hW : Below w10.heap.size w10 W) => conv_name W (X.out.below hW) c6
  have cy := fun W (hW : Below w10.heap.size w10 W) => conv_name W (Y.out.below hW) c10
  have sxy := str_beq x y
  have A0 := fun W (hW : Below w10.heap.size w10 W) => cell_on hW (RA.out.2 0 _ rfl).1
  have A1 := fun W (hW : Below w10.heap.size w10 W) => cell_on hW (RA.out.2 1 _ rfl).1
  have B0 := fun W (hW : Below w10.heap.size w10 W) => cell_on hW (RB.out.2 0 _ rfl).1
  have B1 := fun W (hW : Below w10.heap.size w10 W) => cell_on hW (RB.out.2 1 _ rfl).1
  have C0 := fun W (hW : Below w10.heap.size w10 W) => cell_on hW (RC.out.2 0 _ rfl).1
  have C1 := fun W (hW : Below w10.heap.size w10 W) => cell_on hW (RC.out.2 1 _ rfl).1
  have hs1 := sameMo_iff.2 hd8.out
  rw [hs1] at KS1
  clear hs1
  cases rb
  case false =>
    have h1 := hy.out
    rw [bytesMo_no hrb] at h1
    have je : (ey != 0) = true := by rw [← (Prod.mk.inj h1).2]; rfl
    replace hrb := hid hrb
    clear h1 cx cy sxy B0 B1
    go_upto_region 11 with fail
    have bcur := (Below.refl w10.heap.size w10).drew
    refine wp_region_noPanic ?_
    refine wp_region_held_drew (S := (fun W => Below w10.heap.size w10 W)) (by kernel_rfl) ?_ (fun hHeld => ?_)
    · exact (Below.refl _ _).drew
    refine wpAnyH_take (i := 0) (oi := ?oi1) (v := ?v1) ?hi1 (by kernel_rfl) (by kernel_rfl) (by kernel_rfl) ?hQ1 ?hy1 (by assumption) ?hrest1
    case hi1 => (simp only [List.getElem?_toArray, List.getElem?_cons_zero]; try rfl)
    case hQ1 => exact fun _ _ _ h => h
    case hy1 =>
      refine Or.inl ⟨by rfl, ?_⟩
      (intro wq hSw; (try dsimp only at hSw); go_simp; try with_reducible rfl)
    (try simp only [Act.put, List.setIfInBounds_toArray, List.set_cons_zero, List.set_cons_succ])
    refine wpAnyH_take (i := 1) (oi := ?oi2) (v := ?v2) ?hi2 (by kernel_rfl) (by kernel_rfl) (by kernel_rfl) ?hQ2 ?hy2 (by assumption) ?hrest2
    case hi2 => (simp only [List.getElem?_toArray, List.getElem?_cons_succ, List.getElem?_cons_zero]; try rfl)
    case hQ2 => exact fun _ _ _ h => h
    case hy2 =>
      refine Or.inl ⟨by rfl, ?_⟩
      (intro wq hSw; (try dsimp only at hSw); go_simp; try with_reducible rfl)
    (try simp only [Act.put, List.setIfInBounds_toArray, List.set_cons_zero, List.set_cons_succ])
    refine wpAnyH_take (i := 2) (oi := ?oi3) (v := ?v3) ?hi3 (by kernel_rfl) (by kernel_rfl) (by kernel_rfl) ?hQ3 ?hy3 (by assumption) ?hrest3
    case hi3 => (simp only [List.getElem?_toArray, List.getElem?_cons_succ, List.getElem?_cons_zero]; try rfl)
    case hQ3 => exact fun _ _ _ h => h
    case hy3 =>
      refine Or.inl ⟨by rfl, ?_⟩
      (intro wq hSw; (try dsimp only at hSw); go_simp; try with_reducible rfl)
    (try simp only [Act.put, List.setIfInBounds_toArray, List.set_cons_zero, List.set_cons_succ])
    refine wpAnyH_take (i := 3) (oi := ?oi4) (v := ?v4) ?hi4 (by kernel_rfl) (by kernel_rfl) (by kernel_rfl) ?hQ4 ?hy4 (by assumption) ?hrest4
    case hi4 => (simp only [List.getElem?_toArray, List.getElem?_cons_succ, List.getElem?_cons_zero]; try rfl)
    case hQ4 => exact fun _ _ _ h => h
    case hy4 =>
      refine Or.inl ⟨by rfl, ?_⟩
      (intro wq hSw; (try dsimp only at hSw); go_simp; try with_reducible rfl)
    (try simp only [Act.put, List.setIfInBounds_toArray, List.set_cons_zero, List.set_cons_succ])
    refine wpAnyH_take (i := 4) (oi := ?oi5) (v := ?v5) ?hi5 (by kernel_rfl) (by kernel_rfl) (by kernel_rfl) ?hQ5 ?hy5 (by assumption) ?hrest5
    case hi5 => (simp only [List.getElem?_toArray, List.getElem?_cons_succ, List.getElem?_cons_zero]; try rfl)
    case hQ5 => exact fun _ _ _ h => h
    case hy5 =>
      refine Or.inl ⟨by rfl, ?_⟩
      (intro wq hSw; (try dsimp only at hSw); go_simp; try with_reducible rfl)
    (try simp only [Act.put, List.setIfInBounds_toArray, List.set_cons_zero, List.set_cons_succ])
    refine wpAnyH_take (i := 5) (oi := ?oi6) (v := ?v6) ?hi6 (by kernel_rfl) (by kernel_rfl) (by kernel_rfl) ?hQ6 ?hy6 (by assumption) ?hrest6
    case hi6 => (simp only [List.getElem?_toArray, List.getElem?_cons_succ, List.getElem?_cons_zero]; try rfl)
    case hQ6 => exact fun _ _ _ h => h
    case hy6 =>
      refine Or.inl ⟨by rfl, ?_⟩
      (intro wq hSw; (try dsimp only at hSw); go_simp; try with_reducible rfl)
    (try simp only [Act.put, List.setIfInBounds_toArray, List.set_cons_zero, List.set_cons_succ])
    refine wpAnyH_take (i := 6) (oi := ?oi7) (v := ?v7) ?hi7 (by kernel_rfl) (by kernel_rfl) (by kernel_rfl) ?hQ7 ?hy7 (by assumption) ?hrest7
    case hi7 => (simp only [List.getElem?_toArray, List.getElem?_cons_succ, List.getElem?_cons_zero]; try rfl)
    case hQ7 => exact fun _ _ _ h => h
    case hy7 =>
      refine Or.inl ⟨by rfl, ?_⟩
      (intro wq hSw; (try dsimp only at hSw); go_simp; try with_reducible rfl)
    (try simp only [Act.put, List.setIfInBounds_toArray, List.set_cons_zero, List.set_cons_succ])
    refine wpAnyH_take (i := 7) (oi := ?oi8) (v := ?v8) ?hi8 (by kernel_rfl) (by kernel_rfl) (by kernel_rfl) ?hQ8 ?hy8 (by assumption) ?hrest8
    case hi8 => (simp only [List.getElem?_toArray, List.getElem?_cons_succ, List.getElem?_cons_zero]; try rfl)
    case hQ8 => exact fun _ _ _ h => h
    case hy8 =>
      refine Or.inl ⟨by rfl, ?_⟩
      (intro wq hSw; (try dsimp only at hSw); go_simp; try with_reducible rfl)
    (try simp only [Act.put, List.setIfInBounds_toArray, List.set_cons_zero, List.set_cons_succ])
    refine wpAnyH_ready (rs := [8]) (by kernel_rfl) (by simp) ?_
    refine AllReadyH.cons (o := ?oi9) ?hi9 (fun K hK => ?hstep9) AllReadyH.nil
    case hi9 => (simp only [List.getElem?_toArray, List.getElem?_cons_succ, List.getElem?_cons_zero]; try rfl)
    go_simp
    (refine (KS1.out _ bcur).mono ?_; rintro e wx ⟨rfl, hbx⟩; have bcur := below_step bcur hbx)
    refine hK.out _ _ ?_ (fun hHeld => ?_)
    · exact below_step hHeld hbx
    clear hK K
    (try simp only [Act.put, List.setIfInBounds_toArray, List.set_cons_zero, List.set_cons_succ])
    refine wpAnyH_take (i := 9) (oi := ?oi10) (v := ?v10) ?hi10 (by kernel_rfl) (by kernel_rfl) (by kernel_rfl) ?hQ10 ?hy10 (by assumption) ?hrest10
    case hi10 => (simp only [List.getElem?_toArray, List.getElem?_cons_succ, List.getElem?_cons_zero]; try rfl)
    case hQ10 => exact fun _ _ _ h => h
    case hy10 =>
      refine Or.inl ⟨by rfl, ?_⟩
      (intro wq hSw; (try dsimp only at hSw); go_simp; try with_reducible rfl)
    (try simp only [Act.put, List.setIfInBounds_toArray, List.set_cons_zero, List.set_cons_succ])
    refine wpAnyH_take (i := 10) (oi := ?oi11) (v := ?v11) ?hi11 (by kernel_rfl) (by kernel_rfl) (by kernel_rfl) ?hQ11 ?hy11 (by assumption) ?hrest11
    case hi11 => (simp only [List.getElem?_toArray, List.getElem?_cons_succ, List.getElem?_cons_zero]; try rfl)
    case hQ11 => exact fun _ _ _ h => h
    case hy11 =>
      refine Or.inl ⟨by rfl, ?_⟩
      (intro wq hSw; (try dsimp only at hSw); go_simp; try with_reducible rfl)
    (try simp only [Act.put, List.setIfInBounds_toArray, List.set_cons_zero, List.set_cons_succ])
    refine wpAnyH_take (i := 11) (oi := ?oi12) (v := ?v12) ?hi12 (by kernel_rfl) (by kernel_rfl) (by kernel_rfl) ?hQ12 ?hy12 (by assumption) ?hrest12
    case hi12 => (simp only [List.getElem?_toArray, List.getElem?_cons_succ, List.getElem?_cons_zero]; try rfl)
    case hQ12 => exact fun _ _ _ h => h
    case hy12 =>
      refine Or.inl ⟨by rfl, ?_⟩
      (intro wq hSw; (try dsimp only at hSw); go_simp; try with_reducible rfl)
    (try simp only [Act.put, List.setIfInBounds_toArray, List.set_cons_zero, List.set_cons_succ])
    refine wpAnyH_take (i := 12) (oi := ?oi13) (v := ?v13) ?hi13 (by kernel_rfl) (by kernel_rfl) (by kernel_rfl) ?hQ13 ?hy13 (by assumption) ?hrest13
    case hi13 => (simp only [List.getElem?_toArray, List.getElem?_cons_succ, List.getElem?_cons_zero]; try rfl)
    case hQ13 => exact fun _ _ _ h => h
    case hy13 =>
      refine Or.inl ⟨by rfl, ?_⟩
      (intro wq hSw; (try dsimp only at hSw); go_simp; try with_reducible rfl)
    (try simp only [Act.put, List.setIfInBounds_toArray, List.set_cons_zero, List.set_cons_succ])
    refine wpAnyH_take (i := 13) (oi := ?oi14) (v := ?v14) ?hi14 (by kernel_rfl) (by kernel_rfl) (by kernel_rfl) ?hQ14 ?hy14 (by assumption) ?hrest14
    case hi14 => (simp only [List.getElem?_toArray, List.getElem?_cons_succ, List.getElem?_cons_zero]; try rfl)
    case hQ14 => exact fun _ _ _ h => h
    case hy14 =>
      refine Or.inl ⟨by rfl, ?_⟩
      (intro wq hSw; (try dsimp only at hSw); go_simp; try with_reducible rfl)
    (try simp only [Act.put, List.setIfInBounds_toArray, List.set_cons_zero, List.set_cons_succ])
    refine wpAnyH_take (i := 14) (oi := ?oi15) (v := undef) ?hi15 (by kernel_rfl) (by kernel_rfl) (by kernel_rfl) ?hQ15 ?hy15 (by assumption) ?hrest15
    case hi15 => (simp only [List.getElem?_toArray, List.getElem?_cons_succ, List.getElem?_cons_zero]; try rfl)
    case hQ15 => exact fun _ _ _ h => h
    case hy15 => exact Or.inr ⟨by rfl, rfl⟩
    (try simp only [Act.put, List.setIfInBounds_toArray, List.set_cons_zero, List.set_cons_succ])
    refine wpAnyH_take (i := 15) (oi := ?oi16) (v := undef) ?hi16 (by kernel_rfl) (by kernel_rfl) (by kernel_rfl) ?hQ16 ?hy16 (by assumption) ?hrest16
    case hi16 => (simp only [List.getElem?_toArray, List.getElem?_cons_succ, List.getElem?_cons_zero]; try rfl)
    case hQ16 => exact fun _ _ _ h => h
    case hy16 => exact Or.inr ⟨by rfl, rfl⟩
    (try simp only [Act.put, List.setIfInBounds_toArray, List.set_cons_zero, List.set_cons_succ])
    refine wpAnyH_take (i := 16) (oi := ?oi17) (v := undef) ?hi17 (by kernel_rfl) (by kernel_rfl) (by kernel_rfl) ?hQ17 ?hy17 (by assumption) ?hrest17
    case hi17 => (simp only [List.getElem?_toArray, List.getElem?_cons_succ, List.getElem?_cons_zero]; try rfl)
    case hQ17 => exact fun _ _ _ h => h
    case hy17 => exact Or.inr ⟨by rfl, rfl⟩
    (try simp only [Act.put, List.setIfInBounds_toArray, List.set_cons_zero, List.set_cons_succ])
    refine wpAnyH_take (i := 17) (oi := ?oi18) (v := undef) ?hi18 (by kernel_rfl) (by kernel_rfl) (by kernel_rfl) ?hQ18 ?hy18 (by assumption) ?hrest18
    case hi18 => (simp only [List.getElem?_toArray, List.getElem?_cons_succ, List.getElem?_cons_zero]; try rfl)
    case hQ18 => exact fun _ _ _ h => h
    case hy18 => exact Or.inr ⟨by rfl, rfl⟩
    (try simp only [Act.put, List.setIfInBounds_toArray, List.set_cons_zero, List.set_cons_succ])
    refine wpAnyH_take (i := 18) (oi := ?oi19) (v := undef) ?hi19 (by kernel_rfl) (by kernel_rfl) (by kernel_rfl) ?hQ19 ?hy19 (by assumption) ?hrest19
    case hi19 => (simp only [List.getElem?_toArray, List.getElem?_cons_succ, List.getElem?_cons_zero]; try rfl)
    case hQ19 => exact fun _ _ _ h => h
    case hy19 => exact Or.inr ⟨by rfl, rfl⟩
    (try simp only [Act.put, List.setIfInBounds_toArray, List.set_cons_zero, List.set_cons_succ])
    refine wpAnyH_take (i := 19) (oi := ?oi20) (v := undef) ?hi20 (by kernel_rfl) (by kernel_rfl) (by kernel_rfl) ?hQ20 ?hy20 (by assumption) ?hrest20
    case hi20 => (simp only [List.getElem?_toArray, List.getElem?_cons_succ, List.getElem?_cons_zero]; try rfl)
    case hQ20 => exact fun _ _ _ h => h
    case hy20 => exact Or.inr ⟨by rfl, rfl⟩
    (try simp only [Act.put, List.setIfInBounds_toArray, List.set_cons_zero, List.set_cons_succ])
    refine wpAnyH_take (i := 20) (oi := ?oi21) (v := undef) ?hi21 (by kernel_rfl) (by kernel_rfl) (by kernel_rfl) ?hQ21 ?hy21 (by assumption) ?hrest21
    case hi21 => (simp only [List.getElem?_toArray, List.getElem?_cons_succ, List.getElem?_cons_zero]; try rfl)
    case hQ21 => exact fun _ _ _ h => h
    case hy21 => exact Or.inr ⟨by rfl, rfl⟩
    (try simp only [Act.put, List.setIfInBounds_toArray, List.set_cons_zero, List.set_cons_succ])
    refine wpAnyH_take (i := 21) (oi := ?oi22) (v := undef) ?hi22 (by kernel_rfl) (by kernel_rfl) (by kernel_rfl) ?hQ22 ?hy22 (by assumption) ?hrest22
    case hi22 => (simp only [List.getElem?_toArray, List.getElem?_cons_succ, List.getElem?_cons_zero]; try rfl)
    case hQ22 => exact fun _ _ _ h => h
    case hy22 => exact Or.inr ⟨by rfl, rfl⟩
    (try simp only [Act.put, List.setIfInBounds_toArray, List.set_cons_zero, List.set_cons_succ])
    refine wpAnyH_take (i := 22) (oi := ?oi23) (v := undef) ?hi23 (by kernel_rfl) (by kernel_rfl) (by kernel_rfl) ?hQ23 ?hy23 (by assumption) ?hrest23
    case hi23 => (simp only [List.getElem?_toArray, List.getElem?_cons_succ, List.getElem?_cons_zero]; try rfl)
    case hQ23 => exact fun _ _ _ h => h
    case hy23 => exact Or.inr ⟨by rfl, rfl⟩
    (try simp only [Act.put, List.setIfInBounds_toArray, List.set_cons_zero, List.set_cons_succ])
    refine wpAnyH_take (i := 23) (oi := ?oi24) (v := ?v24) ?hi24 (by kernel_rfl) (by kernel_rfl) (by kernel_rfl) ?hQ24 ?hy24 (by assumption) ?hrest24
    case hi24 => (simp only [List.getElem?_toArray, List.getElem?_cons_succ, List.getElem?_cons_zero]; try rfl)
    case hQ24 => exact fun _ _ _ h => h
    case hy24 =>
      refine Or.inl ⟨by rfl, ?_⟩
      (intro wq hSw; (try dsimp only at hSw); go_simp; try with_reducible rfl)
    (try simp only [Act.put, List.setIfInBounds_toArray, List.set_cons_zero, List.set_cons_succ])
    refine wpAnyH_take (i := 24) (oi := ?oi25) (v := ?v25) ?hi25 (by kernel_rfl) (by kernel_rfl) (by kernel_rfl) ?hQ25 ?hy25 (by assumption) ?hrest25
    case hi25 => (simp only [List.getElem?_toArray, List.getElem?_cons_succ, List.getElem?_cons_zero]; try rfl)
    case hQ25 => exact fun _ _ _ h => h
    case hy25 =>
      refine Or.inl ⟨by rfl, ?_⟩
      (intro wq hSw; (try dsimp only at hSw); go_simp; try with_reducible rfl)
    (try simp only [Act.put, List.setIfInBounds_toArray, List.set_cons_zero, List.set_cons_succ])
    refine wpAnyH_take (i := 25) (oi := ?oi26) (v := ?v26) ?hi26 (by kernel_rfl) (by kernel_rfl) (by kernel_rfl) ?hQ26 ?hy26 (by assumption) ?hrest26
    case hi26 => (simp only [List.getElem?_toArray, List.getElem?_cons_succ, List.getElem?_cons_zero]; try rfl)
    case hQ26 => exact fun _ _ _ h => h
    case hy26 =>
      refine Or.inl ⟨by rfl, ?_⟩
      (intro wq hSw; (try dsimp only at hSw); go_simp; try with_reducible rfl)
    (try simp only [Act.put, List.setIfInBounds_toArray, List.set_cons_zero, List.set_cons_succ])
    refine wpAnyH_done (by kernel_rfl) ?_ _
    refine NoPanic.normal ?_
    (skip)
    have b9 := below_step b0 bcur
    go_wp2_with fail
    go_ret
    exact ⟨rfl, b9⟩
  case true =>
    have h1 := hy.out
    rw [bytesMo_ok hrb] at h1
    have je : (ey != 0) = false := by rw [← (Prod.mk.inj h1).2]; rfl
    have hxy := (Prod.mk.inj h1).1
    have htsb := right_ts hrb
    dsimp only at htsb
    have KS2 := hid (fun W (hW : Below w10.heap.size w10 W) => rsame_any (hm.out.below hW) (ho.out.below hW) htsa htsb)
    have hsm : sameMo (⟨acA, acc, acs, atA, atc, ats⟩ : Mo).data (⟨bcA, bcc, bcs, btA, btc, bts⟩ : Mo).data = decide (x = y) := by
      by_cases hq : x = y
      · rw [decide_eq_true hq]
        exact sameMo_iff.2 (put_inj hra.out im hrb io (by rw [hx.out, hxy]; exact hq))
      · rw [decide_eq_false hq]
        exact sameMo_no (fun e => hq (by rw [← hx.out, ← hxy, e]))
    rw [hsm] at KS2
    generalize decide (x = y) = z at KS2 sxy
    replace hrb := hid hrb
    replace hxy := hid hxy
    clear h1 hsm
    go_upto_region 11 with fail
    have bcur := (Below.refl w10.heap.size w10).drew
    refine wp_region_noPanic ?_
    refine wp_region_held_drew (S := (fun W => Below w10.heap.size w10 W)) (by kernel_rfl) ?_ (fun hHeld => ?_)
    · exact (Below.refl _ _).drew
    refine wpAnyH_take (i := 0) (oi := ?oi27) (v := ?v27) ?hi27 (by kernel_rfl) (by kernel_rfl) (by kernel_rfl) ?hQ27 ?hy27 (by assumption) ?hrest27
    case hi27 => (simp only [List.getElem?_toArray, List.getElem?_cons_zero]; try rfl)
    case hQ27 => exact fun _ _ _ h => h
    case hy27 =>
      refine Or.inl ⟨by rfl, ?_⟩
      (intro wq hSw; (try dsimp only at hSw); go_simp; try with_reducible rfl)
    (try simp only [Act.put, List.setIfInBounds_toArray, List.set_cons_zero, List.set_cons_succ])
    refine wpAnyH_take (i := 1) (oi := ?oi28) (v := ?v28) ?hi28 (by kernel_rfl) (by kernel_rfl) (by kernel_rfl) ?hQ28 ?hy28 (by assumption) ?hrest28
    case hi28 => (simp only [List.getElem?_toArray, List.getElem?_cons_succ, List.getElem?_cons_zero]; try rfl)
    case hQ28 => exact fun _ _ _ h => h
    case hy28 =>
      refine Or.inl ⟨by rfl, ?_⟩
      (intro wq hSw; (try dsimp only at hSw); go_simp; try with_reducible rfl)
    (try simp only [Act.put, List.setIfInBounds_toArray, List.set_cons_zero, List.set_cons_succ])
    refine wpAnyH_take (i := 2) (oi := ?oi29) (v := ?v29) ?hi29 (by kernel_rfl) (by kernel_rfl) (by kernel_rfl) ?hQ29 ?hy29 (by assumption) ?hrest29
    case hi29 => (simp only [List.getElem?_toArray, List.getElem?_cons_succ, List.getElem?_cons_zero]; try rfl)
    case hQ29 => exact fun _ _ _ h => h
    case hy29 =>
      refine Or.inl ⟨by rfl, ?_⟩
      (intro wq hSw; (try dsimp only at hSw); go_simp; try with_reducible rfl)
    (try simp only [Act.put, List.setIfInBounds_toArray, List.set_cons_zero, List.set_cons_succ])
    refine wpAnyH_take (i := 3) (oi := ?oi30) (v := ?v30) ?hi30 (by kernel_rfl) (by kernel_rfl) (by kernel_rfl) ?hQ30 ?hy30 (by assumption) ?hrest30
    case hi30 => (simp only [List.getElem?_toArray, List.getElem?_cons_succ, List.getElem?_cons_zero]; try rfl)
    case hQ30 => exact fun _ _ _ h => h
    case hy30 =>
      refine Or.inl ⟨by rfl, ?_⟩
      (intro wq hSw; (try dsimp only at hSw); go_simp; try with_reducible rfl)
    (try simp only [Act.put, List.setIfInBounds_toArray, List.set_cons_zero, List.set_cons_succ])
    refine wpAnyH_take (i := 4) (oi := ?oi31) (v := ?v31) ?hi31 (by kernel_rfl) (by kernel_rfl) (by kernel_rfl) ?hQ31 ?hy31 (by assumption) ?hrest31
    case hi31 => (simp only [List.getElem?_toArray, List.getElem?_cons_succ, List.getElem?_cons_zero]; try rfl)
    case hQ31 => exact fun _ _ _ h => h
    case hy31 =>
      refine Or.inl ⟨by rfl, ?_⟩
      (intro wq hSw; (try dsimp only at hSw); go_simp; try with_reducible rfl)
    (try simp only [Act.put, List.setIfInBounds_toArray, List.set_cons_zero, List.set_cons_succ])
    refine wpAnyH_take (i := 5) (oi := ?oi32) (v := ?v32) ?hi32 (by kernel_rfl) (by kernel_rfl) (by kernel_rfl) ?hQ32 ?hy32 (by assumption) ?hrest32
    case hi32 => (simp only [List.getElem?_toArray, List.getElem?_cons_succ, List.getElem?_cons_zero]; try rfl)
    case hQ32 => exact fun _ _ _ h => h
    case hy32 =>
      refine Or.inl ⟨by rfl, ?_⟩
      (intro wq hSw; (try dsimp only at hSw); go_simp; try with_reducible rfl)
    (try simp only [Act.put, List.setIfInBounds_toArray, List.set_cons_zero, List.set_cons_succ])
    refine wpAnyH_take (i := 6) (oi := ?oi33) (v := ?v33) ?hi33 (by kernel_rfl) (by kernel_rfl) (by kernel_rfl) ?hQ33 ?hy33 (by assumption) ?hrest33
    case hi33 => (simp only [List.getElem?_toArray, List.getElem?_cons_succ, List.getElem?_cons_zero]; try rfl)
    case hQ33 => exact fun _ _ _ h => h
    case hy33 =>
      refine Or.inl ⟨by rfl, ?_⟩
      (intro wq hSw; (try dsimp only at hSw); go_simp; try with_reducible rfl)
    (try simp only [Act.put, List.setIfInBounds_toArray, List.set_cons_zero, List.set_cons_succ])
    refine wpAnyH_take (i := 7) (oi := ?oi34) (v := ?v34) ?hi34 (by kernel_rfl) (by kernel_rfl) (by kernel_rfl) ?hQ34 ?hy34 (by assumption) ?hrest34
    case hi34 => (simp only [List.getElem?_toArray, List.getElem?_cons_succ, List.getElem?_cons_zero]; try rfl)
    case hQ34 => exact fun _ _ _ h => h
    case hy34 =>
      refine Or.inl ⟨by rfl, ?_⟩
      (intro wq hSw; (try dsimp only at hSw); go_simp; try with_reducible rfl)
    (try simp only [Act.put, List.setIfInBounds_toArray, List.set_cons_zero, List.set_cons_succ])
    refine wpAnyH_ready (rs := [8]) (by kernel_rfl) (by simp) ?_
    refine AllReadyH.cons (o := ?oi35) ?hi35 (fun K hK => ?hstep35) AllReadyH.nil
    case hi35 => (simp only [List.getElem?_toArray, List.getElem?_cons_succ, List.getElem?_cons_zero]; try rfl)
    go_simp
    (refine (KS1.out _ bcur).mono ?_; rintro e wx ⟨rfl, hbx⟩; have bcur := below_step bcur hbx)
    refine hK.out _ _ ?_ (fun hHeld => ?_)
    · exact below_step hHeld hbx
    clear hK K
    (try simp only [Act.put, List.setIfInBounds_toArray, List.set_cons_zero, List.set_cons_succ])
    refine wpAnyH_take (i := 9) (oi := ?oi36) (v := ?v36) ?hi36 (by kernel_rfl) (by kernel_rfl) (by kernel_rfl) ?hQ36 ?hy36 (by assumption) ?hrest36
    case hi36 => (simp only [List.getElem?_toArray, List.getElem?_cons_succ, List.getElem?_cons_zero]; try rfl)
    case hQ36 => exact fun _ _ _ h => h
    case hy36 =>
      refine Or.inl ⟨by rfl, ?_⟩
      (intro wq hSw; (try dsimp only at hSw); go_simp; try with_reducible rfl)
    (try simp only [Act.put, List.setIfInBounds_toArray, List.set_cons_zero, List.set_cons_succ])
    refine wpAnyH_take (i := 10) (oi := ?oi37) (v := ?v37) ?hi37 (by kernel_rfl) (by kernel_rfl) (by kernel_rfl) ?hQ37 ?hy37 (by assumption) ?hrest37
    case hi37 => (simp only [List.getElem?_toArray, List.getElem?_cons_succ, List.getElem?_cons_zero]; try rfl)
    case hQ37 => exact fun _ _ _ h => h
    case hy37 =>
      refine Or.inl ⟨by rfl, ?_⟩
      (intro wq hSw; (try dsimp only at hSw); go_simp; try with_reducible rfl)
    (try simp only [Act.put, List.setIfInBounds_toArray, List.set_cons_zero, List.set_cons_succ])
    refine wpAnyH_take (i := 11) (oi := ?oi38) (v := ?v38) ?hi38 (by kernel_rfl) (by kernel_rfl) (by kernel_rfl) ?hQ38 ?hy38 (by assumption) ?hrest38
    case hi38 => (simp only [List.getElem?_toArray, List.getElem?_cons_succ, List.getElem?_cons_zero]; try rfl)
    case hQ38 => exact fun _ _ _ h => h
    case hy38 =>
      refine Or.inl ⟨by rfl, ?_⟩
      (intro wq hSw; (try dsimp only at hSw); go_simp; try with_reducible rfl)
    (try simp only [Act.put, List.setIfInBounds_toArray, List.set_cons_zero, List.set_cons_succ])
    refine wpAnyH_take (i := 12) (oi := ?oi39) (v := ?v39) ?hi39 (by kernel_rfl) (by kernel_rfl) (by kernel_rfl) ?hQ39 ?hy39 (by assumption) ?hrest39
    case hi39 => (simp only [List.getElem?_toArray, List.getElem?_cons_succ, List.getElem?_cons_zero]; try rfl)
    case hQ39 => exact fun _ _ _ h => h
    case hy39 =>
      refine Or.inl ⟨by rfl, ?_⟩
      (intro wq hSw; (try dsimp only at hSw); go_simp; try with_reducible rfl)
    (try simp only [Act.put, List.setIfInBounds_toArray, List.set_cons_zero, List.set_cons_succ])
    refine wpAnyH_take (i := 13) (oi := ?oi40) (v := ?v40) ?hi40 (by kernel_rfl) (by kernel_rfl) (by kernel_rfl) ?hQ40 ?hy40 (by assumption) ?hrest40
    case hi40 => (simp only [List.getElem?_toArray, List.getElem?_cons_succ, List.getElem?_cons_zero]; try rfl)
    case hQ40 => exact fun _ _ _ h => h
    case hy40 =>
      refine Or.inl ⟨by rfl, ?_⟩
      (intro wq hSw; (try dsimp only at hSw); go_simp; try with_reducible rfl)
    (try simp only [Act.put, List.setIfInBounds_toArray, List.set_cons_zero, List.set_cons_succ])
    refine wpAnyH_take (i := 14) (oi := ?oi41) (v := ?v41) ?hi41 (by kernel_rfl) (by kernel_rfl) (by kernel_rfl) ?hQ41 ?hy41 (by assumption) ?hrest41
    case hi41 => (simp only [List.getElem?_toArray, List.getElem?_cons_succ, List.getElem?_cons_zero]; try rfl)
    case hQ41 => exact fun _ _ _ h => h
    case hy41 =>
      refine Or.inl ⟨by rfl, ?_⟩
      (intro wq hSw; (try dsimp only at hSw); go_simp; try with_reducible rfl)
    (try simp only [Act.put, List.setIfInBounds_toArray, List.set_cons_zero, List.set_cons_succ])
    refine wpAnyH_take (i := 15) (oi := ?oi42) (v := ?v42) ?hi42 (by kernel_rfl) (by kernel_rfl) (by kernel_rfl) ?hQ42 ?hy42 (by assumption) ?hrest42
    case hi42 => (simp only [List.getElem?_toArray, List.getElem?_cons_succ, List.getElem?_cons_zero]; try rfl)
    case hQ42 => exact fun _ _ _ h => h
    case hy42 =>
      refine Or.inl ⟨by rfl, ?_⟩
      (intro wq hSw; (try dsimp only at hSw); go_simp; try with_reducible rfl)
    (try simp only [Act.put, List.setIfInBounds_toArray, List.set_cons_zero, List.set_cons_succ])
    refine wpAnyH_take (i := 16) (oi := ?oi43) (v := ?v43) ?hi43 (by kernel_rfl) (by kernel_rfl) (by kernel_rfl) ?hQ43 ?hy43 (by assumption) ?hrest43
    case hi43 => (simp only [List.getElem?_toArray, List.getElem?_cons_succ, List.getElem?_cons_zero]; try rfl)
    case hQ43 => exact fun _ _ _ h => h
    case hy43 =>
      refine Or.inl ⟨by rfl, ?_⟩
      (intro wq hSw; (try dsimp only at hSw); go_simp; try with_reducible rfl)
    (try simp only [Act.put, List.setIfInBounds_toArray, List.set_cons_zero, List.set_cons_succ])
    refine wpAnyH_take (i := 17) (oi := ?oi44) (v := ?v44) ?hi44 (by kernel_rfl) (by kernel_rfl) (by kernel_rfl) ?hQ44 ?hy44 (by assumption) ?hrest44
    case hi44 => (simp only [List.getElem?_toArray, List.getElem?_cons_succ, List.getElem?_cons_zero]; try rfl)
    case hQ44 => exact fun _ _ _ h => h
    case hy44 =>
      refine Or.inl ⟨by rfl, ?_⟩
      (intro wq hSw; (try dsimp only at hSw); go_simp; try with_reducible rfl)
    (try simp only [Act.put, List.setIfInBounds_toArray, List.set_cons_zero, List.set_cons_succ])
    refine wpAnyH_take (i := 18) (oi := ?oi45) (v := ?v45) ?hi45 (by kernel_rfl) (by kernel_rfl) (by kernel_rfl) ?hQ45 ?hy45 (by assumption) ?hrest45
    case hi45 => (simp only [List.getElem?_toArray, List.getElem?_cons_succ, List.getElem?_cons_zero]; try rfl)
    case hQ45 => exact fun _ _ _ h => h
    case hy45 =>
      refine Or.inl ⟨by rfl, ?_⟩
      (intro wq hSw; (try dsimp only at hSw); go_simp; try with_reducible rfl)
    (try simp only [Act.put, List.setIfInBounds_toArray, List.set_cons_zero, List.set_cons_succ])
    refine wpAnyH_take (i := 19) (oi := ?oi46) (v := ?v46) ?hi46 (by kernel_rfl) (by kernel_rfl) (by kernel_rfl) ?hQ46 ?hy46 (by assumption) ?hrest46
    case hi46 => (simp only [List.getElem?_toArray, List.getElem?_cons_succ, List.getElem?_cons_zero]; try rfl)
    case hQ46 => exact fun _ _ _ h => h
    case hy46 =>
      refine Or.inl ⟨by rfl, ?_⟩
      (intro wq hSw; (try dsimp only at hSw); go_simp; try with_reducible rfl)
    (try simp only [Act.put, List.setIfInBounds_toArray, List.set_cons_zero, List.set_cons_succ])
    refine wpAnyH_take (i := 20) (oi := ?oi47) (v := ?v47) ?hi47 (by kernel_rfl) (by kernel_rfl) (by kernel_rfl) ?hQ47 ?hy47 (by assumption) ?hrest47
    case hi47 => (simp only [List.getElem?_toArray, List.getElem?_cons_succ, List.getElem?_cons_zero]; try rfl)
    case hQ47 => exact fun _ _ _ h => h
    case hy47 =>
      refine Or.inl ⟨by rfl, ?_⟩
      (intro wq hSw; (try dsimp only at hSw); go_simp; try with_reducible rfl)
    (try simp only [Act.put, List.setIfInBounds_toArray, List.set_cons_zero, List.set_cons_succ])
    refine wpAnyH_ready (rs := [21]) (by kernel_rfl) (by simp) ?_
    refine AllReadyH.cons (o := ?oi48) ?hi48 (fun K hK => ?hstep48) AllReadyH.nil
    case hi48 => (simp only [List.getElem?_toArray, List.getElem?_cons_succ, List.getElem?_cons_zero]; try rfl)
    go_simp
    (refine (KS2.out _ bcur).mono ?_; rintro e wy ⟨rfl, hbx⟩; have bcur := below_step bcur hbx)
    refine hK.out _ _ ?_ (fun hHeld => ?_)
    · exact below_step hHeld hbx
    clear hK K
    (try simp only [Act.put, List.setIfInBounds_toArray, List.set_cons_zero, List.set_cons_succ])
    refine wpAnyH_take (i := 22) (oi := ?oi49) (v := ?v49) ?hi49 (by kernel_rfl) (by kernel_rfl) (by kernel_rfl) ?hQ49 ?hy49 (by assumption) ?hrest49
    case hi49 => (simp only [List.getElem?_toArray, List.getElem?_cons_succ, List.getElem?_cons_zero]; try rfl)
    case hQ49 => exact fun _ _ _ h => h
    case hy49 =>
      refine Or.inl ⟨by rfl, ?_⟩
      (intro wq hSw; (try dsimp only at hSw); go_simp; try with_reducible rfl)
    (try simp only [Act.put, List.setIfInBounds_toArray, List.set_cons_zero, List.set_cons_succ])
    refine wpAnyH_take (i := 23) (oi := ?oi50) (v := ?v50) ?hi50 (by kernel_rfl) (by kernel_rfl) (by kernel_rfl) ?hQ50 ?hy50 (by assumption) ?hrest50
    case hi50 => (simp only [List.getElem?_toArray, List.getElem?_cons_succ, List.getElem?_cons_zero]; try rfl)
    case hQ50 => exact fun _ _ _ h => h
    case hy50 =>
      refine Or.inl ⟨by rfl, ?_⟩
      (intro wq hSw; (try dsimp only at hSw); go_simp; try with_reducible rfl)
    (try simp only [Act.put, List.setIfInBounds_toArray, List.set_cons_zero, List.set_cons_succ])
    refine wpAnyH_take (i := 24) (oi := ?oi51) (v := ?v51) ?hi51 (by kernel_rfl) (by kernel_rfl) (by kernel_rfl) ?hQ51 ?hy51 (by assumption) ?hrest51
    case hi51 => (simp only [List.getElem?_toArray, List.getElem?_cons_succ, List.getElem?_cons_zero]; try rfl)
    case hQ51 => exact fun _ _ _ h => h
    case hy51 =>
      refine Or.inl ⟨by rfl, ?_⟩
      (intro wq hSw; (try dsimp only at hSw); go_simp; try with_reducible rfl)
    (try simp only [Act.put, List.setIfInBounds_toArray, List.set_cons_zero, List.set_cons_succ])
    refine wpAnyH_take (i := 25) (oi := ?oi52) (v := ?v52) ?hi52 (by kernel_rfl) (by kernel_rfl) (by kernel_rfl) ?hQ52 ?hy52 (by assumption) ?hrest52
    case hi52 => (simp only [List.getElem?_toArray, List.getElem?_cons_succ, List.getElem?_cons_zero]; try rfl)
    case hQ52 => exact fun _ _ _ h => h
    case hy52 =>
      refine Or.inl ⟨by rfl, ?_⟩
      (intro wq hSw; (try dsimp only at hSw); go_simp; try with_reducible rfl)
    (try simp only [Act.put, List.setIfInBounds_toArray, List.set_cons_zero, List.set_cons_succ])
    refine wpAnyH_done (by kernel_rfl) ?_ _
    refine NoPanic.normal ?_
    (skip)
    have b9 := below_step b0 bcur
    go_wp2_with fail
    go_ret
    exact ⟨by simp, b9⟩
end Go.Proofs.YtnkocbdbfkhgmaaDoor
