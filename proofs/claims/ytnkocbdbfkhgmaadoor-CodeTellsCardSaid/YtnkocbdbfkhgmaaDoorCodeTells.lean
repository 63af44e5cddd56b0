import Derived.Test.YtnkocbdbfkhgmaaDoorCodeO
import Derived.Test.YtnkocbdbfkhgmaaDoorCodeR
import Derived.Test.YtnkocbdbfkhgmaaDoorCodeU
import Derived.Test.YtnkocbdbfkhgmaaDoorCodeKept
import Derived.Test.YtnkocbdbfkhgmaaDoorPlain1
/-! CodeTells: any module's bytes, the module of any bytes, whether any is right, any sign and any number, are the document's. -/
namespace Go.Proofs.YtnkocbdbfkhgmaaDoor
open Go.RowKit Go.Cov
theorem str_of (s : ByteArray) : str s.data.toList = s := by unfold str; cases s; simp
theorem read_ts {l : List UInt8} {m : Mo} (h : m.data = (readMo l).1) : m.ts.length ≤ 140737488351236 := by
  rcases readMo_cases l with ⟨d, h1, h2, _⟩ | ⟨h1, _⟩
  · rw [h1] at h
    have := (rightMo_facts h2).2.1
    have h3 : m.data = d := h
    rw [← h3] at this
    unfold Mo.data at this
    simp at this
    omega
  · rw [h1] at h
    rw [(mo_nil h).2]; decide
set_option maxRecDepth 100000 in
set_option maxHeartbeats 25600000 in
theorem tells_law' {w : World} {m : Mo} (hm : MoRd w m) {A : Option Addr} {c : Nat} {l : List UInt8} (hl : Rd w A (l.map byt)) (hc : l.length ≤ c) (hlm : l.length ≤ 140737488351232) (n : Int) (s : List UInt8) (ht : STab w) :
    Calls Tryd.prog 3 #[.agg #[.slice m.cA m.cs.length m.cc, .slice m.tA m.ts.length m.tc], .slice A l.length c, .int .i64 n, .string (str s)] w fun e w' => e = .returned (.bool true) ∧ Below w.heap.size w w' := by
  replace hlm : l.length ≤ 140737488351236 := by omega
  obtain ⟨acA, acc, acs, atA, atc, ats⟩ := m
  dsimp only
  have b0 := below_alloc w (.cells #[.slice acA acs.length acc, .slice atA ats.length atc] 25)
  have RA := Row.new w [.slice acA acs.length acc, .slice atA ats.length atc] 25
  change Row (w.alloc (.cells #[.slice acA acs.length acc, .slice atA ats.length atc] 25)) _ _ at RA
  replace hm := hid (hm.below b0)
  replace ht := hid (ht.below b0)
  replace hl := hid (hl.below b0)
  replace RA := hid RA
  go_enter Tryd.func3, Tryd.ntmps3
  go_upto_region 1 with fail
  obtain ⟨kA, hkA⟩ : ∃ k, k = w.heap.size := ⟨_, rfl⟩
  generalize w.alloc (.cells #[.slice acA acs.length acc, .slice atA ats.length atc] 25) = w2 at b0 RA hm ht hl ⊢
  rw [← hkA] at RA ⊢
  replace hkA := hid hkA
  go_wp2_with fail
  refine (head_any w2 ht.out).mono ?_
  rintro e w3 ⟨rfl, hb⟩
  replace RA := hid (RA.out.below hb)
  replace hm := hid (hm.out.below hb)
  replace ht := hid (ht.out.below hb)
  replace hl := hid (hl.out.below hb)
  replace b0 := below_step b0 hb
  clear hb
  have K := great_any hm.out
  dsimp only at K
  replace K := hid K
  have A0 := (RA.out.2 0 _ rfl).1
  have A1 := (RA.out.2 1 _ rfl).1
  go_wp2_with fail
  refine K.out.mono ?_
  rintro e w4 ⟨q, rfl, hb⟩
  clear K A0 A1
  replace RA := hid (RA.out.below hb)
  replace hm := hid (hm.out.below hb)
  replace ht := hid (ht.out.below hb)
  replace hl := hid (hl.out.below hb)
  replace b0 := below_step b0 hb
  clear hb
  cases q
  case true =>
    go_wp2_with fail
    go_ret
    exact ⟨rfl, b0⟩
  obtain ⟨⟨x, ex⟩, hx⟩ : ∃ q, bytesMo (⟨acA, acc, acs, atA, atc, ats⟩ : Mo).data = q := ⟨_, rfl⟩
  have KP := put_any hm.out
  rw [hx] at KP
  dsimp only at KP
  replace KP := hid KP
  have A0 := (RA.out.2 0 _ rfl).1
  have A1 := (RA.out.2 1 _ rfl).1
  go_wp2_with fail
  refine KP.out.mono ?_
  rintro e w5 ⟨v5, rfl, own5, hb⟩
  clear KP A0 A1
  obtain ⟨A5, c5, rfl, _, _, _⟩ := own_shape own5
  have X := hid (own_rd own5)
  clear own5
  replace RA := hid (RA.out.below hb)
  replace hm := hid (hm.out.below hb)
  replace ht := hid (ht.out.below hb)
  replace hl := hid (hl.out.below hb)
  replace b0 := below_step b0 hb
  clear hb
  have KP := rput_any hm.out
  rw [hx] at KP
  dsimp only at KP
  replace KP := hid KP
  replace hx := hid hx
  have A0 := (RA.out.2 0 _ rfl).1
  have A1 := (RA.out.2 1 _ rfl).1
  go_wp2_with fail
  refine KP.out.mono ?_
  rintro e w6 ⟨v6, rfl, own6, hb⟩
  clear KP A0 A1
  obtain ⟨A6, c6, rfl, _, _, _⟩ := own_shape own6
  have Y := hid (own_rd own6)
  clear own6
  replace RA := hid (RA.out.below hb)
  replace hm := hid (hm.out.below hb)
  replace ht := hid (ht.out.below hb)
  replace hl := hid (hl.out.below hb)
  replace X := hid (X.out.below hb)
  replace b0 := below_step b0 hb
  clear hb
  have KG := hid (get_any hl.out hc hlm)
  go_wp2_with fail
  refine KG.out.mono ?_
  rintro e w7 ⟨m8, rfl, hdu, hru, hb⟩
  clear KG
  replace RA := hid (RA.out.below hb)
  replace hm := hid (hm.out.below hb)
  replace ht := hid (ht.out.below hb)
  replace hl := hid (hl.out.below hb)
  replace X := hid (X.out.below hb)
  replace Y := hid (Y.out.below hb)
  replace b0 := below_step b0 hb
  clear hb
  have htsu := read_ts hdu
  obtain ⟨ucA, ucc, ucs, utA, utc, uts⟩ := m8
  dsimp only at htsu ⊢
  have bC := below_alloc w7 (.cells #[.slice ucA ucs.length ucc, .slice utA uts.length utc] 25)
  have Ru := Row.new w7 [.slice ucA ucs.length ucc, .slice utA uts.length utc] 25
  replace Ru := hid Ru
  replace hdu := hid hdu
  go_upto_region 7 with fail
  replace Ru := Ru.out
  change Row (w7.alloc (.cells #[.slice ucA ucs.length ucc, .slice utA uts.length utc] 25)) _ _ at Ru
  obtain ⟨ku, hku⟩ : ∃ k, k = w7.heap.size := ⟨_, rfl⟩
  generalize w7.alloc (.cells #[.slice ucA ucs.length ucc, .slice utA uts.length utc] 25) = w8 at bC Ru ⊢
  rw [← hku] at Ru ⊢
  replace Ru := hid Ru
  replace hku := hid hku
  replace hru := hid (hru.below bC)
  replace RA := hid (RA.out.below bC)
  replace hm := hid (hm.out.below bC)
  replace ht := hid (ht.out.below bC)
  replace hl := hid (hl.out.below bC)
  replace X := hid (X.out.below bC)
  replace Y := hid (Y.out.below bC)
  replace b0 := below_step b0 bC
  clear bC
  have KG := hid (rget_any hl.out hc hlm)
  go_wp2_with fail
  refine KG.out.mono ?_
  rintro e w9 ⟨m8, rfl, hdv, hrv, hb⟩
  clear KG
  replace RA := hid (RA.out.below hb)
  replace hm := hid (hm.out.below hb)
  replace ht := hid (ht.out.below hb)
  replace hl := hid (hl.out.below hb)
  replace X := hid (X.out.below hb)
  replace Y := hid (Y.out.below hb)
  replace Ru := hid (Ru.out.below hb)
  replace hru := hid (hru.out.below hb)
  replace b0 := below_step b0 hb
  clear hb
  have htsv := read_ts hdv
  obtain ⟨vcA, vcc, vcs, vtA, vtc, vts⟩ := m8
  dsimp only at htsv ⊢
  have bC := below_alloc w9 (.cells #[.slice vcA vcs.length vcc, .slice vtA vts.length vtc] 25)
  have Rv := Row.new w9 [.slice vcA vcs.length vcc, .slice vtA vts.length vtc] 25
  replace Rv := hid Rv
  replace hdv := hid hdv
  go_upto_region 8 with fail
  replace Rv := Rv.out
  change Row (w9.alloc (.cells #[.slice vcA vcs.length vcc, .slice vtA vts.length vtc] 25)) _ _ at Rv
  obtain ⟨kv, hkv⟩ : ∃ k, k = w9.heap.size := ⟨_, rfl⟩
  generalize w9.alloc (.cells #[.slice vcA vcs.length vcc, .slice vtA vts.length vtc] 25) = w10 at bC Rv ⊢
  rw [← hkv] at Rv ⊢
  replace Rv := hid Rv
  replace hkv := hid hkv
  replace hrv := hid (hrv.below bC)
  replace RA := hid (RA.out.below bC)
  replace hm := hid (hm.out.below bC)
  replace ht := hid (ht.out.below bC)
  replace hl := hid (hl.out.below bC)
  replace X := hid (X.out.below bC)
  replace Y := hid (Y.out.below bC)
  replace Ru := hid (Ru.out.below bC)
  replace hru := hid (hru.out.below bC)
  replace b0 := below_step b0 bC
  clear bC
  have hs1 : sameMo (⟨ucA, ucc, ucs, utA, utc, uts⟩ : Mo).data (⟨vcA, vcc, vcs, vtA, vtc, vts⟩ : Mo).data = true := sameMo_iff.2 (hdu.out.trans hdv.out.symm)
  have KS := hid (fun W (hW : Below w10.heap.size w10 W) => rsame_any (hru.out.below hW) (hrv.out.below hW) htsu htsv)
  rw [hs1] at KS
  obtain ⟨rr, hrr⟩ : ∃ r, rightMo (⟨acA, acc, acs, atA, atc, ats⟩ : Mo).data = r := ⟨_, rfl⟩
  have KR := hid (fun W (hW : Below w10.heap.size w10 W) => right_any (hm.out.below hW))
  have KT := hid (fun W (hW : Below w10.heap.size w10 W) => rright_any (hm.out.below hW))
  rw [hrr] at KR KT
  replace hrr := hid hrr
  have KN1 := hid (fun W (hW : Below w10.heap.size w10 W) => sign_any (ht.out.below hW) n)
  have KN2 := hid (fun W => rsign_any W n)
  have KN3 := hid (fun W (hW : Below w10.heap.size w10 W) => number_any (ht.out.below hW) s)
  have KN4 := hid (fun W => rnumber_any W s)
  generalize signD n = sn at KN1 KN2
  generalize numD s = nn at KN3 KN4
  have sq := str_beq sn sn
  rw [decide_eq_true rfl] at sq
  have cx := fun W (hW : Below w10.heap.size w10 W) => conv_name W (X.out.below hW) c5
  have cy := fun W (hW : Below w10.heap.size w10 W) => conv_name W (Y.out.below hW) c6
  have sx := str_beq x x
  rw [decide_eq_true rfl] at sx
  generalize (readMo l).2 = eg
  have A0 := fun W (hW : Below w10.heap.size w10 W) => cell_on hW (RA.out.2 0 _ rfl).1
  have A1 := fun W (hW : Below w10.heap.size w10 W) => cell_on hW (RA.out.2 1 _ rfl).1
  have U0 := fun W (hW : Below w10.heap.size w10 W) => cell_on hW (Ru.out.2 0 _ rfl).1
  have U1 := fun W (hW : Below w10.heap.size w10 W) => cell_on hW (Ru.out.2 1 _ rfl).1
  have V0 := fun W (hW : Below w10.heap.size w10 W) => cell_on hW (Rv.out.2 0 _ rfl).1
  have V1 := fun W (hW : Below w10.heap.size w10 W) => cell_on hW (Rv.out.2 1 _ rfl).1
  clear hs1 hru hrv
  as_aux_lemma =>
  have bcur := (Below.refl w10.heap.size w10).drew
  refine wp_region_noPanic ?_
  refine wp_region_held_drew (S := (fun W => Below w10.heap.size w10 W)) (by kernel_rfl) ?_ (fun hHeld => ?_)
  · exact (Below.refl _ _).drew
  refine wpAnyH_take (i := 0) (oi := ?oi1) (v := ?v1) ?hi1 (by kernel_rfl) (by kernel_rfl) (by kernel_rfl) ?hQ1 ?hy1 (by assumption) ?hrest1
  case hi1 => (simp only [List.getElem?_toArray, List.getElem?_cons_zero]; try rfl)
  case hQ1 => exact fun _ _ _ h => h
  case hy1 =>
    refine Or.inl ⟨by rfl, ?_⟩
    (intro wq hSw; (try dsimp only at hSw); go_simp; try with_reducible rfl)
  (try simp only [Act.put, List.setIfInBounds_toArray, List.set_cons_zero, List.set_cons_succ])
  refine wpAnyH_take (i := 1) (oi := ?oi2) (v := ?v2) ?hi2 (by kernel_rfl) (by kernel_rfl) (by kernel_rfl) ?hQ2 ?hy2 (by assumption) ?hrest2
  case hi2 => (simp only [List.getElem?_toArray, List.getElem?_cons_succ, List.getElem?_cons_zero]; try rfl)
  case hQ2 => exact fun _ _ _ h => h
  case hy2 =>
    refine Or.inl ⟨by rfl, ?_⟩
    (intro wq hSw; (try dsimp only at hSw); go_simp; try with_reducible rfl)
  (try simp only [Act.put, List.setIfInBounds_toArray, List.set_cons_zero, List.set_cons_succ])
  refine wpAnyH_take (i := 2) (oi := ?oi3) (v := ?v3) ?hi3 (by kernel_rfl) (by kernel_rfl) (by kernel_rfl) ?hQ3 ?hy3 (by assumption) ?hrest3
  case hi3 => (simp only [List.getElem?_toArray, List.getElem?_cons_succ, List.getElem?_cons_zero]; try rfl)
  case hQ3 => exact fun _ _ _ h => h
  case hy3 =>
    refine Or.inl ⟨by rfl, ?_⟩
    (intro wq hSw; (try dsimp only at hSw); go_simp; try with_reducible rfl)
  (try simp only [Act.put, List.setIfInBounds_toArray, List.set_cons_zero, List.set_cons_succ])
  refine wpAnyH_take (i := 3) (oi := ?oi4) (v := ?v4) ?hi4 (by kernel_rfl) (by kernel_rfl) (by kernel_rfl) ?hQ4 ?hy4 (by assumption) ?hrest4
  case hi4 => (simp only [List.getElem?_toArray, List.getElem?_cons_succ, List.getElem?_cons_zero]; try rfl)
  case hQ4 => exact fun _ _ _ h => h
  case hy4 =>
    refine Or.inl ⟨by rfl, ?_⟩
    (intro wq hSw; (try dsimp only at hSw); go_simp; try with_reducible rfl)
  (try simp only [Act.put, List.setIfInBounds_toArray, List.set_cons_zero, List.set_cons_succ])
  refine wpAnyH_take (i := 4) (oi := ?oi5) (v := ?v5) ?hi5 (by kernel_rfl) (by kernel_rfl) (by kernel_rfl) ?hQ5 ?hy5 (by assumption) ?hrest5
  case hi5 => (simp only [List.getElem?_toArray, List.getElem?_cons_succ, List.getElem?_cons_zero]; try rfl)
  case hQ5 => exact fun _ _ _ h => h
  case hy5 =>
    refine Or.inl ⟨by rfl, ?_⟩
    (intro wq hSw; (try dsimp only at hSw); go_simp; try with_reducible rfl)
  (try simp only [Act.put, List.setIfInBounds_toArray, List.set_cons_zero, List.set_cons_succ])
  refine wpAnyH_take (i := 5) (oi := ?oi6) (v := ?v6) ?hi6 (by kernel_rfl) (by kernel_rfl) (by kernel_rfl) ?hQ6 ?hy6 (by assumption) ?hrest6
  case hi6 => (simp only [List.getElem?_toArray, List.getElem?_cons_succ, List.getElem?_cons_zero]; try rfl)
  case hQ6 => exact fun _ _ _ h => h
  case hy6 =>
    refine Or.inl ⟨by rfl, ?_⟩
    (intro wq hSw; (try dsimp only at hSw); go_simp; try with_reducible rfl)
  (try simp only [Act.put, List.setIfInBounds_toArray, List.set_cons_zero, List.set_cons_succ])
  refine wpAnyH_take (i := 6) (oi := ?oi7) (v := ?v7) ?hi7 (by kernel_rfl) (by kernel_rfl) (by kernel_rfl) ?hQ7 ?hy7 (by assumption) ?hrest7
  case hi7 => (simp only [List.getElem?_toArray, List.getElem?_cons_succ, List.getElem?_cons_zero]; try rfl)
  case hQ7 => exact fun _ _ _ h => h
  case hy7 =>
    refine Or.inl ⟨by rfl, ?_⟩
    (intro wq hSw; (try dsimp only at hSw); go_simp; try with_reducible rfl)
  (try simp only [Act.put, List.setIfInBounds_toArray, List.set_cons_zero, List.set_cons_succ])
  refine wpAnyH_take (i := 7) (oi := ?oi8) (v := ?v8) ?hi8 (by kernel_rfl) (by kernel_rfl) (by kernel_rfl) ?hQ8 ?hy8 (by assumption) ?hrest8
  case hi8 => (simp only [List.getElem?_toArray, List.getElem?_cons_succ, List.getElem?_cons_zero]; try rfl)
  case hQ8 => exact fun _ _ _ h => h
  case hy8 =>
    refine Or.inl ⟨by rfl, ?_⟩
    (intro wq hSw; (try dsimp only at hSw); go_simp; try with_reducible rfl)
  (try simp only [Act.put, List.setIfInBounds_toArray, List.set_cons_zero, List.set_cons_succ])
  refine wpAnyH_take (i := 8) (oi := ?oi9) (v := ?v9) ?hi9 (by kernel_rfl) (by kernel_rfl) (by kernel_rfl) ?hQ9 ?hy9 (by assumption) ?hrest9
  case hi9 => (simp only [List.getElem?_toArray, List.getElem?_cons_succ, List.getElem?_cons_zero]; try rfl)
  case hQ9 => exact fun _ _ _ h => h
  case hy9 =>
    refine Or.inl ⟨by rfl, ?_⟩
    (intro wq hSw; (try dsimp only at hSw); go_simp; try with_reducible rfl)
  (try simp only [Act.put, List.setIfInBounds_toArray, List.set_cons_zero, List.set_cons_succ])
  refine wpAnyH_take (i := 9) (oi := ?oi10) (v := ?v10) ?hi10 (by kernel_rfl) (by kernel_rfl) (by kernel_rfl) ?hQ10 ?hy10 (by assumption) ?hrest10
  case hi10 => (simp only [List.getElem?_toArray, List.getElem?_cons_succ, List.getElem?_cons_zero]; try rfl)
  case hQ10 => exact fun _ _ _ h => h
  case hy10 =>
    refine Or.inl ⟨by rfl, ?_⟩
    (intro wq hSw; (try dsimp only at hSw); go_simp; try with_reducible rfl)
  (try simp only [Act.put, List.setIfInBounds_toArray, List.set_cons_zero, List.set_cons_succ])
  refine wpAnyH_take (i := 10) (oi := ?oi11) (v := ?v11) ?hi11 (by kernel_rfl) (by kernel_rfl) (by kernel_rfl) ?hQ11 ?hy11 (by assumption) ?hrest11
  case hi11 => (simp only [List.getElem?_toArray, List.getElem?_cons_succ, List.getElem?_cons_zero]; try rfl)
  case hQ11 => exact fun _ _ _ h => h
  case hy11 =>
    refine Or.inl ⟨by rfl, ?_⟩
    (intro wq hSw; (try dsimp only at hSw); go_simp; try with_reducible rfl)
  (try simp only [Act.put, List.setIfInBounds_toArray, List.set_cons_zero, List.set_cons_succ])
  refine wpAnyH_take (i := 11) (oi := ?oi12) (v := ?v12) ?hi12 (by kernel_rfl) (by kernel_rfl) (by kernel_rfl) ?hQ12 ?hy12 (by assumption) ?hrest12
  case hi12 => (simp only [List.getElem?_toArray, List.getElem?_cons_succ, List.getElem?_cons_zero]; try rfl)
  case hQ12 => exact fun _ _ _ h => h
  case hy12 =>
    refine Or.inl ⟨by rfl, ?_⟩
    (intro wq hSw; (try dsimp only at hSw); go_simp; try with_reducible rfl)
  (try simp only [Act.put, List.setIfInBounds_toArray, List.set_cons_zero, List.set_cons_succ])
  refine wpAnyH_take (i := 12) (oi := ?oi13) (v := ?v13) ?hi13 (by kernel_rfl) (by kernel_rfl) (by kernel_rfl) ?hQ13 ?hy13 (by assumption) ?hrest13
  case hi13 => (simp only [List.getElem?_toArray, List.getElem?_cons_succ, List.getElem?_cons_zero]; try rfl)
  case hQ13 => exact fun _ _ _ h => h
  case hy13 =>
    refine Or.inl ⟨by rfl, ?_⟩
    (intro wq hSw; (try dsimp only at hSw); go_simp; try with_reducible rfl)
  (try simp only [Act.put, List.setIfInBounds_toArray, List.set_cons_zero, List.set_cons_succ])
  refine wpAnyH_take (i := 13) (oi := ?oi14) (v := ?v14) ?hi14 (by kernel_rfl) (by kernel_rfl) (by kernel_rfl) ?hQ14 ?hy14 (by assumption) ?hrest14
  case hi14 => (simp only [List.getElem?_toArray, List.getElem?_cons_succ, List.getElem?_cons_zero]; try rfl)
  case hQ14 => exact fun _ _ _ h => h
  case hy14 =>
    refine Or.inl ⟨by rfl, ?_⟩
    (intro wq hSw; (try dsimp only at hSw); go_simp; try with_reducible rfl)
  (try simp only [Act.put, List.setIfInBounds_toArray, List.set_cons_zero, List.set_cons_succ])
  refine wpAnyH_take (i := 14) (oi := ?oi15) (v := ?v15) ?hi15 (by kernel_rfl) (by kernel_rfl) (by kernel_rfl) ?hQ15 ?hy15 (by assumption) ?hrest15
  case hi15 => (simp only [List.getElem?_toArray, List.getElem?_cons_succ, List.getElem?_cons_zero]; try rfl)
  case hQ15 => exact fun _ _ _ h => h
  case hy15 =>
    refine Or.inl ⟨by rfl, ?_⟩
    (intro wq hSw; (try dsimp only at hSw); go_simp; try with_reducible rfl)
  (try simp only [Act.put, List.setIfInBounds_toArray, List.set_cons_zero, List.set_cons_succ])
  refine wpAnyH_take (i := 15) (oi := ?oi16) (v := ?v16) ?hi16 (by kernel_rfl) (by kernel_rfl) (by kernel_rfl) ?hQ16 ?hy16 (by assumption) ?hrest16
  case hi16 => (simp only [List.getElem?_toArray, List.getElem?_cons_succ, List.getElem?_cons_zero]; try rfl)
  case hQ16 => exact fun _ _ _ h => h
  case hy16 =>
    refine Or.inl ⟨by rfl, ?_⟩
    (intro wq hSw; (try dsimp only at hSw); go_simp; try with_reducible rfl)
  (try simp only [Act.put, List.setIfInBounds_toArray, List.set_cons_zero, List.set_cons_succ])
  refine wpAnyH_ready (rs := [16]) (by kernel_rfl) (by simp) ?_
  refine AllReadyH.cons (o := ?oi17) ?hi17 (fun K hK => ?hstep17) AllReadyH.nil
  case hi17 => (simp only [List.getElem?_toArray, List.getElem?_cons_succ, List.getElem?_cons_zero]; try rfl)
  go_simp
  (refine (KS.out _ bcur).mono ?_; rintro e wx ⟨rfl, hbx⟩; have bcur := below_step bcur hbx)
  refine hK.out _ _ ?_ (fun hHeld => ?_)
  · exact below_step hHeld hbx
  clear hK K
  (try simp only [Act.put, List.setIfInBounds_toArray, List.set_cons_zero, List.set_cons_succ])
  refine wpAnyH_take (i := 17) (oi := ?oi18) (v := ?v18) ?hi18 (by kernel_rfl) (by kernel_rfl) (by kernel_rfl) ?hQ18 ?hy18 (by assumption) ?hrest18
  case hi18 => (simp only [List.getElem?_toArray, List.getElem?_cons_succ, List.getElem?_cons_zero]; try rfl)
  case hQ18 => exact fun _ _ _ h => h
  case hy18 =>
    refine Or.inl ⟨by rfl, ?_⟩
    (intro wq hSw; (try dsimp only at hSw); go_simp; try with_reducible rfl)
  (try simp only [Act.put, List.setIfInBounds_toArray, List.set_cons_zero, List.set_cons_succ])
  refine wpAnyH_take (i := 18) (oi := ?oi19) (v := ?v19) ?hi19 (by kernel_rfl) (by kernel_rfl) (by kernel_rfl) ?hQ19 ?hy19 (by assumption) ?hrest19
  case hi19 => (simp only [List.getElem?_toArray, List.getElem?_cons_succ, List.getElem?_cons_zero]; try rfl)
  case hQ19 => exact fun _ _ _ h => h
  case hy19 =>
    refine Or.inl ⟨by rfl, ?_⟩
    (intro wq hSw; (try dsimp only at hSw); go_simp; try with_reducible rfl)
  (try simp only [Act.put, List.setIfInBounds_toArray, List.set_cons_zero, List.set_cons_succ])
  refine wpAnyH_take (i := 19) (oi := ?oi20) (v := ?v20) ?hi20 (by kernel_rfl) (by kernel_rfl) (by kernel_rfl) ?hQ20 ?hy20 (by assumption) ?hrest20
  case hi20 => (simp only [List.getElem?_toArray, List.getElem?_cons_succ, List.getElem?_cons_zero]; try rfl)
  case hQ20 => exact fun _ _ _ h => h
  case hy20 =>
    refine Or.inl ⟨by rfl, ?_⟩
    (intro wq hSw; (try dsimp only at hSw); go_simp; try with_reducible rfl)
  (try simp only [Act.put, List.setIfInBounds_toArray, List.set_cons_zero, List.set_cons_succ])
  refine wpAnyH_take (i := 20) (oi := ?oi21) (v := ?v21) ?hi21 (by kernel_rfl) (by kernel_rfl) (by kernel_rfl) ?hQ21 ?hy21 (by assumption) ?hrest21
  case hi21 => (simp only [List.getElem?_toArray, List.getElem?_cons_succ, List.getElem?_cons_zero]; try rfl)
  case hQ21 => exact fun _ _ _ h => h
  case hy21 =>
    refine Or.inl ⟨by rfl, ?_⟩
    (intro wq hSw; (try dsimp only at hSw); go_simp; try with_reducible rfl)
  (try simp only [Act.put, List.setIfInBounds_toArray, List.set_cons_zero, List.set_cons_succ])
  refine wpAnyH_take (i := 21) (oi := ?oi22) (v := ?v22) ?hi22 (by kernel_rfl) (by kernel_rfl) (by kernel_rfl) ?hQ22 ?hy22 (by assumption) ?hrest22
  case hi22 => (simp only [List.getElem?_toArray, List.getElem?_cons_succ, List.getElem?_cons_zero]; try rfl)
  case hQ22 => exact fun _ _ _ h => h
  case hy22 =>
    refine Or.inl ⟨by rfl, ?_⟩
    (intro wq hSw; (try dsimp only at hSw); go_simp; try with_reducible rfl)
  (try simp only [Act.put, List.setIfInBounds_toArray, List.set_cons_zero, List.set_cons_succ])
  refine wpAnyH_take (i := 22) (oi := ?oi23) (v := ?v23) ?hi23 (by kernel_rfl) (by kernel_rfl) (by kernel_rfl) ?hQ23 ?hy23 (by assumption) ?hrest23
  case hi23 => (simp only [List.getElem?_toArray, List.getElem?_cons_succ, List.getElem?_cons_zero]; try rfl)
  case hQ23 => exact fun _ _ _ h => h
  case hy23 =>
    refine Or.inl ⟨by rfl, ?_⟩
    (intro wq hSw; (try dsimp only at hSw); go_simp; try with_reducible rfl)
  (try simp only [Act.put, List.setIfInBounds_toArray, List.set_cons_zero, List.set_cons_succ])
  refine wpAnyH_take (i := 23) (oi := ?oi24) (v := ?v24) ?hi24 (by kernel_rfl) (by kernel_rfl) (by kernel_rfl) ?hQ24 ?hy24 (by assumption) ?hrest24
  case hi24 => (simp only [List.getElem?_toArray, List.getElem?_cons_succ, List.getElem?_cons_zero]; try rfl)
  case hQ24 => exact fun _ _ _ h => h
  case hy24 =>
    refine Or.inl ⟨by rfl, ?_⟩
    (intro wq hSw; (try dsimp only at hSw); go_simp; try with_reducible rfl)
  (try simp only [Act.put, List.setIfInBounds_toArray, List.set_cons_zero, List.set_cons_succ])
  refine wpAnyH_take (i := 24) (oi := ?oi25) (v := ?v25) ?hi25 (by kernel_rfl) (by kernel_rfl) (by kernel_rfl) ?hQ25 ?hy25 (by assumption) ?hrest25
  case hi25 => (simp only [List.getElem?_toArray, List.getElem?_cons_succ, List.getElem?_cons_zero]; try rfl)
  case hQ25 => exact fun _ _ _ h => h
  case hy25 =>
    refine Or.inl ⟨by rfl, ?_⟩
    (intro wq hSw; (try dsimp only at hSw); go_simp; try with_reducible rfl)
  (try simp only [Act.put, List.setIfInBounds_toArray, List.set_cons_zero, List.set_cons_succ])
  refine wpAnyH_take (i := 26) (oi := ?oi26) (v := ?v26) ?hi26 (by kernel_rfl) (by kernel_rfl) (by kernel_rfl) ?hQ26 ?hy26 (by assumption) ?hrest26
  case hi26 => (simp only [List.getElem?_toArray, List.getElem?_cons_succ, List.getElem?_cons_zero]; try rfl)
  case hQ26 => exact fun _ _ _ h => h
  case hy26 =>
    refine Or.inl ⟨by rfl, ?_⟩
    (intro wq hSw; (try dsimp only at hSw); go_simp; try with_reducible rfl)
  (try simp only [Act.put, List.setIfInBounds_toArray, List.set_cons_zero, List.set_cons_succ])
  refine wpAnyH_ready (rs := [25]) (by kernel_rfl) (by simp) ?_
  refine AllReadyH.cons (o := ?oi27) ?hi27 (fun K hK => ?hstep27) AllReadyH.nil
  case hi27 => (simp only [List.getElem?_toArray, List.getElem?_cons_succ, List.getElem?_cons_zero]; try rfl)
  go_simp
  (refine (KR.out _ bcur).mono ?_; rintro e wx ⟨rfl, hbx⟩; have bcur := below_step bcur hbx)
  refine hK.out _ _ ?_ (fun hHeld => ?_)
  · exact below_step hHeld hbx
  clear hK K
  (try simp only [Act.put, List.setIfInBounds_toArray, List.set_cons_zero, List.set_cons_succ])
  refine wpAnyH_ready (rs := [27]) (by kernel_rfl) (by simp) ?_
  refine AllReadyH.cons (o := ?oi28) ?hi28 (fun K hK => ?hstep28) AllReadyH.nil
  case hi28 => (simp only [List.getElem?_toArray, List.getElem?_cons_succ, List.getElem?_cons_zero]; try rfl)
  go_simp
  (refine (KT.out _ bcur).mono ?_; rintro e wx ⟨rfl, hbx⟩; have bcur := below_step bcur hbx)
  refine hK.out _ _ ?_ (fun hHeld => ?_)
  · exact below_step hHeld hbx
  clear hK K
  (try simp only [Act.put, List.setIfInBounds_toArray, List.set_cons_zero, List.set_cons_succ])
  refine wpAnyH_take (i := 28) (oi := ?oi29) (v := ?v29) ?hi29 (by kernel_rfl) (by kernel_rfl) (by kernel_rfl) ?hQ29 ?hy29 (by assumption) ?hrest29
  case hi29 => (simp only [List.getElem?_toArray, List.getElem?_cons_succ, List.getElem?_cons_zero]; try rfl)
  case hQ29 => exact fun _ _ _ h => h
  case hy29 =>
    refine Or.inl ⟨by rfl, ?_⟩
    (intro wq hSw; (try dsimp only at hSw); go_simp; try with_reducible rfl)
  (try simp only [Act.put, List.setIfInBounds_toArray, List.set_cons_zero, List.set_cons_succ])
  refine wpAnyH_take (i := 29) (oi := ?oi30) (v := ?v30) ?hi30 (by kernel_rfl) (by kernel_rfl) (by kernel_rfl) ?hQ30 ?hy30 (by assumption) ?hrest30
  case hi30 => (simp only [List.getElem?_toArray, List.getElem?_cons_succ, List.getElem?_cons_zero]; try rfl)
  case hQ30 => exact fun _ _ _ h => h
  case hy30 =>
    refine Or.inl ⟨by rfl, ?_⟩
    (intro wq hSw; (try dsimp only at hSw); go_simp; try with_reducible rfl)
  (try simp only [Act.put, List.setIfInBounds_toArray, List.set_cons_zero, List.set_cons_succ])
  refine wpAnyH_take (i := 30) (oi := ?oi31) (v := ?v31) ?hi31 (by kernel_rfl) (by kernel_rfl) (by kernel_rfl) ?hQ31 ?hy31 (by assumption) ?hrest31
  case hi31 => (simp only [List.getElem?_toArray, List.getElem?_cons_succ, List.getElem?_cons_zero]; try rfl)
  case hQ31 => exact fun _ _ _ h => h
  case hy31 =>
    refine Or.inl ⟨by rfl, ?_⟩
    (intro wq hSw; (try dsimp only at hSw); go_simp; try with_reducible rfl)
  (try simp only [Act.put, List.setIfInBounds_toArray, List.set_cons_zero, List.set_cons_succ])
  refine wpAnyH_take (i := 31) (oi := ?oi32) (v := ?v32) ?hi32 (by kernel_rfl) (by kernel_rfl) (by kernel_rfl) ?hQ32 ?hy32 (by assumption) ?hrest32
  case hi32 => (simp only [List.getElem?_toArray, List.getElem?_cons_succ, List.getElem?_cons_zero]; try rfl)
  case hQ32 => exact fun _ _ _ h => h
  case hy32 =>
    refine Or.inl ⟨by rfl, ?_⟩
    (intro wq hSw; (try dsimp only at hSw); go_simp; try with_reducible rfl)
  (try simp only [Act.put, List.setIfInBounds_toArray, List.set_cons_zero, List.set_cons_succ])
  refine wpAnyH_take (i := 33) (oi := ?oi33) (v := ?v33) ?hi33 (by kernel_rfl) (by kernel_rfl) (by kernel_rfl) ?hQ33 ?hy33 (by assumption) ?hrest33
  case hi33 => (simp only [List.getElem?_toArray, List.getElem?_cons_succ, List.getElem?_cons_zero]; try rfl)
  case hQ33 => exact fun _ _ _ h => h
  case hy33 =>
    refine Or.inl ⟨by rfl, ?_⟩
    (intro wq hSw; (try dsimp only at hSw); go_simp; try with_reducible rfl)
  (try simp only [Act.put, List.setIfInBounds_toArray, List.set_cons_zero, List.set_cons_succ])
  refine wpAnyH_ready (rs := [32]) (by kernel_rfl) (by simp) ?_
  refine AllReadyH.cons (o := ?oi34) ?hi34 (fun K hK => ?hstep34) AllReadyH.nil
  case hi34 => (simp only [List.getElem?_toArray, List.getElem?_cons_succ, List.getElem?_cons_zero]; try rfl)
  go_simp
  (refine (KN1.out _ bcur).mono ?_; rintro e wx ⟨rfl, rfl⟩)
  refine hK.out _ _ hHeld (fun hHeld => ?_)
  clear hK K
  (try simp only [Act.put, List.setIfInBounds_toArray, List.set_cons_zero, List.set_cons_succ])
  refine wpAnyH_ready (rs := [34]) (by kernel_rfl) (by simp) ?_
  refine AllReadyH.cons (o := ?oi35) ?hi35 (fun K hK => ?hstep35) AllReadyH.nil
  case hi35 => (simp only [List.getElem?_toArray, List.getElem?_cons_succ, List.getElem?_cons_zero]; try rfl)
  go_simp
  (refine (KN2.out _).mono ?_; rintro e wx ⟨rfl, hbx⟩; have bcur := below_step bcur hbx)
  refine hK.out _ _ ?_ (fun hHeld => ?_)
  · exact below_step hHeld hbx
  clear hK K
  (try simp only [Act.put, List.setIfInBounds_toArray, List.set_cons_zero, List.set_cons_succ])
  refine wpAnyH_take (i := 35) (oi := ?oi36) (v := ?v36) ?hi36 (by kernel_rfl) (by kernel_rfl) (by kernel_rfl) ?hQ36 ?hy36 (by assumption) ?hrest36
  case hi36 => (simp only [List.getElem?_toArray, List.getElem?_cons_succ, List.getElem?_cons_zero]; try rfl)
  case hQ36 => exact fun _ _ _ h => h
  case hy36 =>
    refine Or.inl ⟨by rfl, ?_⟩
    (intro wq hSw; (try dsimp only at hSw); go_simp; try with_reducible rfl)
  (try simp only [Act.put, List.setIfInBounds_toArray, List.set_cons_zero, List.set_cons_succ])
  refine wpAnyH_take (i := 36) (oi := ?oi37) (v := ?v37) ?hi37 (by kernel_rfl) (by kernel_rfl) (by kernel_rfl) ?hQ37 ?hy37 (by assumption) ?hrest37
  case hi37 => (simp only [List.getElem?_toArray, List.getElem?_cons_succ, List.getElem?_cons_zero]; try rfl)
  case hQ37 => exact fun _ _ _ h => h
  case hy37 =>
    refine Or.inl ⟨by rfl, ?_⟩
    (intro wq hSw; (try dsimp only at hSw); go_simp; try with_reducible rfl)
  (try simp only [Act.put, List.setIfInBounds_toArray, List.set_cons_zero, List.set_cons_succ])
  refine wpAnyH_take (i := 37) (oi := ?oi38) (v := ?v38) ?hi38 (by kernel_rfl) (by kernel_rfl) (by kernel_rfl) ?hQ38 ?hy38 (by assumption) ?hrest38
  case hi38 => (simp only [List.getElem?_toArray, List.getElem?_cons_succ, List.getElem?_cons_zero]; try rfl)
  case hQ38 => exact fun _ _ _ h => h
  case hy38 =>
    refine Or.inl ⟨by rfl, ?_⟩
    (intro wq hSw; (try dsimp only at hSw); go_simp; try with_reducible rfl)
  (try simp only [Act.put, List.setIfInBounds_toArray, List.set_cons_zero, List.set_cons_succ])
  refine wpAnyH_take (i := 38) (oi := ?oi39) (v := ?v39) ?hi39 (by kernel_rfl) (by kernel_rfl) (by kernel_rfl) ?hQ39 ?hy39 (by assumption) ?hrest39
  case hi39 => (simp only [List.getElem?_toArray, List.getElem?_cons_succ, List.getElem?_cons_zero]; try rfl)
  case hQ39 => exact fun _ _ _ h => h
  case hy39 =>
    refine Or.inl ⟨by rfl, ?_⟩
    (intro wq hSw; (try dsimp only at hSw); go_simp; try with_reducible rfl)
  (try simp only [Act.put, List.setIfInBounds_toArray, List.set_cons_zero, List.set_cons_succ])
  refine wpAnyH_take (i := 40) (oi := ?oi40) (v := ?v40) ?hi40 (by kernel_rfl) (by kernel_rfl) (by kernel_rfl) ?hQ40 ?hy40 (by assumption) ?hrest40
  case hi40 => (simp only [List.getElem?_toArray, List.getElem?_cons_succ, List.getElem?_cons_zero]; try rfl)
  case hQ40 => exact fun _ _ _ h => h
  case hy40 =>
    refine Or.inl ⟨by rfl, ?_⟩
    (intro wq hSw; (try dsimp only at hSw); go_simp; try with_reducible rfl)
  (try simp only [Act.put, List.setIfInBounds_toArray, List.set_cons_zero, List.set_cons_succ])
  refine wpAnyH_ready (rs := [39]) (by kernel_rfl) (by simp) ?_
  refine AllReadyH.cons (o := ?oi41) ?hi41 (fun K hK => ?hstep41) AllReadyH.nil
  case hi41 => (simp only [List.getElem?_toArray, List.getElem?_cons_succ, List.getElem?_cons_zero]; try rfl)
  go_simp
  (refine (KN3.out _ bcur).mono ?_; rintro e wx ⟨rfl, rfl⟩)
  refine hK.out _ _ hHeld (fun hHeld => ?_)
  clear hK K
  (try simp only [Act.put, List.setIfInBounds_toArray, List.set_cons_zero, List.set_cons_succ])
  refine wpAnyH_ready (rs := [41]) (by kernel_rfl) (by simp) ?_
  refine AllReadyH.cons (o := ?oi42) ?hi42 (fun K hK => ?hstep42) AllReadyH.nil
  case hi42 => (simp only [List.getElem?_toArray, List.getElem?_cons_succ, List.getElem?_cons_zero]; try rfl)
  go_simp
  (refine (KN4.out _).mono ?_; rintro e wx ⟨rfl, hbx⟩; have bcur := below_step bcur hbx)
  refine hK.out _ _ ?_ (fun hHeld => ?_)
  · exact below_step hHeld hbx
  clear hK K
  (try simp only [Act.put, List.setIfInBounds_toArray, List.set_cons_zero, List.set_cons_succ])
  refine wpAnyH_take (i := 42) (oi := ?oi43) (v := ?v43) ?hi43 (by kernel_rfl) (by kernel_rfl) (by kernel_rfl) ?hQ43 ?hy43 (by assumption) ?hrest43
  case hi43 => (simp only [List.getElem?_toArray, List.getElem?_cons_succ, List.getElem?_cons_zero]; try rfl)
  case hQ43 => exact fun _ _ _ h => h
  case hy43 =>
    refine Or.inl ⟨by rfl, ?_⟩
    (intro wq hSw; (try dsimp only at hSw); go_simp; try with_reducible rfl)
  (try simp only [Act.put, List.setIfInBounds_toArray, List.set_cons_zero, List.set_cons_succ])
  refine wpAnyH_take (i := 43) (oi := ?oi44) (v := ?v44) ?hi44 (by kernel_rfl) (by kernel_rfl) (by kernel_rfl) ?hQ44 ?hy44 (by assumption) ?hrest44
  case hi44 => (simp only [List.getElem?_toArray, List.getElem?_cons_succ, List.getElem?_cons_zero]; try rfl)
  case hQ44 => exact fun _ _ _ h => h
  case hy44 =>
    refine Or.inl ⟨by rfl, ?_⟩
    (intro wq hSw; (try dsimp only at hSw); go_simp; try with_reducible rfl)
  (try simp only [Act.put, List.setIfInBounds_toArray, List.set_cons_zero, List.set_cons_succ])
  refine wpAnyH_take (i := 44) (oi := ?oi45) (v := ?v45) ?hi45 (by kernel_rfl) (by kernel_rfl) (by kernel_rfl) ?hQ45 ?hy45 (by assumption) ?hrest45
  case hi45 => (simp only [List.getElem?_toArray, List.getElem?_cons_succ, List.getElem?_cons_zero]; try rfl)
  case hQ45 => exact fun _ _ _ h => h
  case hy45 =>
    refine Or.inl ⟨by rfl, ?_⟩
    (intro wq hSw; (try dsimp only at hSw); go_simp; try with_reducible rfl)
  (try simp only [Act.put, List.setIfInBounds_toArray, List.set_cons_zero, List.set_cons_succ])
  refine wpAnyH_done (by kernel_rfl) ?_ _
  refine NoPanic.normal ?_
  (skip)
  have b9 := below_step b0 bcur
  go_wp2_with fail
  go_ret
  exact ⟨by simp, b9⟩
theorem tells_law {w : World} {m : Mo} (hm : MoRd w m) {A : Option Addr} {c : Nat} {l : List UInt8} (hl : Rd w A (l.map byt)) (hc : l.length ≤ c) (hlm : l.length ≤ 140737488351232) (n : Int) (s : ByteArray) (ht : STab w) :
    Calls Tryd.prog 3 #[.agg #[.slice m.cA m.cs.length m.cc, .slice m.tA m.ts.length m.tc], .slice A l.length c, .int .i64 n, .string s] w fun e w' => e = .returned (.bool true) ∧ Below w.heap.size w w' := by
  have := tells_law' hm hl hc hlm n s.data.toList ht
  rwa [str_of] at this
end Go.Proofs.YtnkocbdbfkhgmaaDoor
