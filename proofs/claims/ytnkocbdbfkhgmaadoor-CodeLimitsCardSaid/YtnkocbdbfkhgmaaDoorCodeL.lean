import Derived.Test.YtnkocbdbfkhgmaaDoorCodeK
import Derived.Test.YtnkocbdbfkhgmaaDoorPlain1
/-! code: a module's bytes -/
namespace Go.Proofs.YtnkocbdbfkhgmaaDoor
open Go.RowKit Go.Cov
theorem putC_nsB (nm : List UInt8) (ps : List Int) (res slots : Int) (is : List ID) : putC (nm, ps, res, slots, is) = tx nm ++ (be 8 ps.length ++ (nsB ps ++ (nsB [res, slots, (is.length : Int)] ++ is.flatMap putI))) := by
  unfold putC nsB
  simp
theorem nsB_two (i : ID) : nsB [i.1, i.2] = putI i := by simp [nsB, putI]
theorem nsB_one (i : Int) : nsB [i] = be 8 i := by simp [nsB]
theorem flatI_step (is : List ID) (k : Nat) (hk : k < is.length) : (is.take (k + 1)).flatMap putI = (is.take k).flatMap putI ++ putI is[k] := by
  rw [List.take_succ_eq_append_getElem hk, List.flatMap_append]; simp
theorem flatC_step (cs : List CD) (k : Nat) (hk : k < cs.length) : (cs.take (k + 1)).flatMap putC = (cs.take k).flatMap putC ++ putC cs[k] := by
  rw [List.take_succ_eq_append_getElem hk, List.flatMap_append]; simp
set_option maxRecDepth 100000 in
set_option maxHeartbeats 12800000 in
theorem put_any {w : World} {m : Mo} (h : MoRd w m) :
    Calls Tryd.prog 12 #[.agg #[.slice m.cA m.cs.length m.cc, .slice m.tA m.ts.length m.tc]] w fun e w' => ∃ v, e = .returned (.tuple #[v, .int .i64 (bytesMo m.data).2]) ∧ w'.ownsRow w.heap.size 5 1 v (bytesMo m.data).1.length ((bytesMo m.data).1.map byt) ∧ Below w.heap.size w w' := by
  have KR := fun W (hW : MoRd W m) => right_any hW
  have b0 := below_alloc w (.cells #[.slice m.cA m.cs.length m.cc, .slice m.tA m.ts.length m.tc] 25)
  have R0 := Row.new w [.slice m.cA m.cs.length m.cc, .slice m.tA m.ts.length m.tc] 25
  obtain ⟨is, his⟩ : ∃ r, rightMo m.data = r := ⟨_, rfl⟩
  rw [his] at KR
  replace KR := hid KR
  go_enter Tryd.func12, Tryd.ntmps12
  go_upto_region 1 with fail
  change Row (w.alloc (.cells #[.slice m.cA m.cs.length m.cc, .slice m.tA m.ts.length m.tc] 25)) _ _ at R0
  generalize hw1 : w.alloc (.cells #[.slice m.cA m.cs.length m.cc, .slice m.tA m.ts.length m.tc] 25) = w1 at b0 R0 ⊢
  have n1 : w1.heap.size = w.heap.size + 1 := by rw [← hw1]; simp
  clear hw1
  replace n1 := hid n1
  have C0 := (R0.2 0 _ rfl).1
  have C1 := (R0.2 1 _ rfl).1
  have h1 := h.below b0
  replace h1 := hid h1
  go_wp2_with fail
  refine (KR.out w1 h1.out).mono ?_
  rintro e w2 ⟨rfl, hb2⟩
  replace b0 := below_step b0 hb2
  have h2 := h1.out.below hb2
  have R2 := R0.below hb2
  clear KR h1 C0 C1 R0 h
  cases is
  case false =>
    have e : bytesMo m.data = ([], 111) := bytesMo_no his
    go_wp2_with fail
    go_ret2
    exact ⟨.slice none 0 0, by rw [e]; rfl, by rw [e]; exact World.ownsRow_nil _ _ _ _, b0⟩
  have e := bytesMo_ok his
  obtain ⟨f1, f2, f3, f4⟩ := rightMo_facts his
  have hsz := putMo_le his
  have hRC : ∀ x ∈ m.cs, rightC x.data = true := fun x hx => f4 _ (List.mem_map_of_mem hx)
  have hcl : m.cs.length ≤ 64 := by unfold Mo.data at f1; simpa using f1
  have htl : m.ts.length ≤ 1024 := by unfold Mo.data at f2; simpa using f2
  have htf : ∀ s ∈ m.ts.map SlR.l, s.length ≤ 64 := f3
  have hcb : ∀ k, ((m.cs.map Co.data).take k).flatMap putC = ((m.cs.map Co.data).take k).flatMap putC ∧ (((m.cs.map Co.data).take k).flatMap putC).length ≤ 16789504 := fun k => ⟨rfl, by
    rw [putCs_len]
    have := szCs_le ((m.cs.map Co.data).take k) (fun c hc => f4 c (List.mem_of_mem_take hc))
    have h2 : ((m.cs.map Co.data).take k).length ≤ 64 := by rw [List.length_take, List.length_map]; omega
    omega⟩
  replace e := hid e
  replace f4 := hid f4
  replace f1 := hid f1
  replace f2 := hid f2
  replace f3 := hid f3
  replace hsz := hid hsz
  replace hRC := hid hRC
  replace htf := hid htf
  replace hcb := hid hcb
  replace h2 := hid h2
  replace hb2 := hid hb2
  have hz2 := R2.1
  have D := hid (fun W (hb : Below w2.heap.size w2 W) => R2.below hb)
  have C0 := (R2.2 0 _ rfl).1
  replace R2 := hid R2
  -- how many
  have bB := below_alloc w2 (.cells #[.int .i64 (m.cs.length : Int)] 2)
  have rB := rd_box w2 #[.int .i64 (m.cs.length : Int)] 2
  have zB : (w2.alloc (.cells #[.int .i64 (m.cs.length : Int)] 2)).heap.size = w2.heap.size + 1 := by simp
  have K := pnums_any (base := w2.heap.size) (v := .slice none 0 0) (l := []) (c := 1) (World.ownsRow_nil _ _ _ _) bB.size (ns := [(m.cs.length : Int)]) 1 rfl rB (fun ad ha he => by cases he) (fun ad ha => by cases ha; show w2.heap.size < _; omega) (by simp)
  replace K := hid K
  replace rB := hid rB
  go_wp2_with fail
  refine K.out.mono ?_
  rintro e5 w5 ⟨v5, rfl, own5, T5⟩
  have bl5 : Below w2.heap.size w2 w5 := bB.trans (T5.below (World.ownsRow_nil _ w2.heap.size 5 1) bB.size)
  have s5 := Nat.le_trans bB.size T5.size
  rw [List.nil_append, nsB_one] at own5
  clear K rB T5 bB zB C0
  have C0 := ((D.out _ bl5).2 0 _ rfl).1
  go_wp2_with fail
  go_loopw [4, 26] (fun b i W => ∃ (k : Nat) (vk : Value), k ≤ m.cs.length ∧ i = .int .i64 k ∧ b = vk ∧ W.ownsRow w2.heap.size 5 1 vk (be 8 m.cs.length ++ ((m.cs.map Co.data).take k).flatMap putC).length ((be 8 m.cs.length ++ ((m.cs.map Co.data).take k).flatMap putC).map byt) ∧ Below w2.heap.size w2 W ∧ w2.heap.size ≤ W.heap.size) (fun _ i _ => m.cs.length - (RowKit.intOf i).toNat)
  case atStart => exact ⟨0, v5, by omega, rfl, rfl, by simpa using own5, bl5, s5⟩
  case round =>
    obtain ⟨k, vk, hk, rfl, hs0, ownk, bk, sk⟩ := hrel
    replace hs0 := hs0.symm
    subst hs0
    clear own5 C0
    by_cases hlt : k < m.cs.length
    · have i1 : (k : Int) < m.cs.length := by omega
      obtain ⟨ad, hAd, x0, x1, x2, x3, x4⟩ := co_at (h2.out.c.below bk) k hlt
      have hxm := List.getElem_mem hlt
      have hxr := h2.out.r _ hxm
      have hxc := hRC.out _ hxm
      have HST : Hid ((be 8 m.cs.length ++ ((m.cs.map Co.data).take k).flatMap putC) ++ putC m.cs[k].data = be 8 m.cs.length ++ ((m.cs.map Co.data).take (k + 1)).flatMap putC) := by
        rw [flatC_step (m.cs.map Co.data) k (by simpa using hlt), List.append_assoc, List.getElem_map]; exact hid rfl
      have hlk : (be 8 m.cs.length ++ ((m.cs.map Co.data).take k).flatMap putC).length ≤ 16800000 := by
        have := (hcb.out k).2
        rw [List.length_append, be_length]; omega
      generalize be 8 (m.cs.length : Int) ++ ((m.cs.map Co.data).take k).flatMap putC = lk at ownk HST hlk
      generalize m.cs[k] = x at x0 x1 x2 x3 x4 hxm hxr hxc HST
      obtain ⟨nm, pA, pc, ps, res, slots, iA, ic, is⟩ := x
      dsimp only at x0 x1 x2 x3 x4 hxr
      obtain ⟨hp, hi, ⟨hp1, hp2⟩, hi1, hi2⟩ := hxr
      dsimp only at hp hi hp1 hp2 hi1 hi2
      obtain ⟨⟨g1, g2, _, _, _, g6⟩, _⟩ := rightC_facts hxc
      unfold Co.data at g1 g2 g6
      dsimp only at g1 g2 g6
      have HST2 := hid (HST.out.symm.trans (congrArg (lk ++ ·) (show putC _ = _ from putC_nsB nm ps res slots is)))
      clear HST hxc hxm
      rw [hAd] at *
      have P := Pb.mk' ownk bk sk [.string (str nm), .slice pA ps.length pc, .int .i64 res, .int .i64 slots, .slice iA is.length ic] 46
      obtain ⟨cb, hcbb⟩ : ∃ cb, cb = wr.heap.size := ⟨_, rfl⟩
      have bA := below_alloc wr (.cells #[.string (str nm), .slice pA ps.length pc, .int .i64 res, .int .i64 slots, .slice iA is.length ic] 46)
      replace hAd := hid hAd
      go_upto_region 7 with fail
      change Pb w2 5 w2.heap.size wr.heap.size [.string (str nm), .slice pA ps.length pc, .int .i64 res, .int .i64 slots, .slice iA is.length ic] (wr.alloc (.cells #[.string (str nm), .slice pA ps.length pc, .int .i64 res, .int .i64 slots, .slice iA is.length ic] 46)) _ _ at P
      generalize wr.alloc (.cells #[.string (str nm), .slice pA ps.length pc, .int .i64 res, .int .i64 slots, .slice iA is.length ic] 46) = wA at P bA ⊢
      clear ownk bk sk x0 x1 x2 x3 x4 bA
      rw [← hcbb] at P ⊢
      replace hcbb := hid hcbb
      have CN := P.cell 0 _ rfl
      have CV := conv_sb (P := Tryd.prog) Tryd.underlying9 Tryd.underlying26 Tryd.underlying5 wA nm
      have bS := sbW_below 5 wA nm
      have K := putbytes_ok (c := sbCap 5 wA nm) (sbW_rd 5 wA nm) (by omega)
      replace K := hid K
      have P2 := hid (P.below bS)
      clear P bS
      go_wp2_with fail
      refine K.out.mono ?_
      rintro e w6 ⟨vn, rfl, ownn, hb6⟩
      replace P2 := P2.out.below hb6
      clear K CV CN
      generalize sbW 5 wA nm = wS at ownn hb6 P2 ⊢
      obtain ⟨An, cn, rfl, _, _, _⟩ := own_shape ownn
      have RN := own_rd ownn
      clear ownn hb6
      go_upto_region 8 with fail
      obtain ⟨nt, hnt⟩ : ∃ nt, nt = (tx nm).length := ⟨_, rfl⟩
      have hnt3 : nt ≤ 65540 := by rw [hnt, tx_length]; omega
      rw [← hnt]
      replace hnt := hid hnt
      go_cut [4] (fun s4 wx => ∃ v, s4 = v ∧ Pb w2 5 w2.heap.size cb [.string (str nm), .slice pA ps.length pc, .int .i64 res, .int .i64 slots, .slice iA is.length ic] wx v (lk ++ (tx nm ++ be 8 ps.length)))
      case first =>
        have bcur := (Below.refl w6.heap.size w6).drew
        have P := P2.below bcur
        have C1 := P2.cell 1 _ rfl
        replace P2 := hid P2
        refine wp_region_noPanic ?_
        refine wp_region_held_drew (S := (fun W => W.cell? ⟨cb, 1, none⟩ = some (.slice pA ps.length pc))) (by kernel_rfl) ?_ (fun hHeld => ?_)
        · exact C1
        refine wpAnyH_take (i := 0) (oi := ?oi1) (v := ?v1) ?hi1 (by kernel_rfl) (by kernel_rfl) (by kernel_rfl) ?hQ1 ?hy1 (by assumption) ?hrest1
        case hi1 => (simp only [List.getElem?_toArray, List.getElem?_cons_zero]; try rfl)
        case hQ1 => exact fun _ _ _ h => h
        case hy1 =>
          refine Or.inl ⟨by rfl, ?_⟩
          (intro wq hSw; (try dsimp only at hSw); go_simp; try with_reducible rfl)
        (try simp only [Act.put, List.setIfInBounds_toArray, List.set_cons_zero, List.set_cons_succ])
        refine wpAnyH_take (i := 1) (oi := ?oi2) (v := ?v2) ?hi2 (by kernel_rfl) (by kernel_rfl) (by kernel_rfl) ?hQ2 ?hy2 (by assumption) ?hrest2
        case hi2 => (simp only [List.getElem?_toArray, List.getElem?_cons_succ, List.getElem?_cons_zero]; try rfl)
        case hQ2 => exact fun _ _ _ h => h
        case hy2 =>
          refine Or.inl ⟨by rfl, ?_⟩
          (intro wq hSw; (try dsimp only at hSw); go_simp; try with_reducible rfl)
        (try simp only [Act.put, List.setIfInBounds_toArray, List.set_cons_zero, List.set_cons_succ])
        refine wpAnyH_take (i := 3) (oi := ?oi3) (v := ?v3) ?hi3 (by kernel_rfl) (by kernel_rfl) (by kernel_rfl) ?hQ3 ?hy3 (by assumption) ?hrest3
        case hi3 => (simp only [List.getElem?_toArray, List.getElem?_cons_succ, List.getElem?_cons_zero]; try rfl)
        case hQ3 => exact fun _ _ _ h => h
        case hy3 =>
          refine Or.inl ⟨by rfl, ?_⟩
          (intro wq hSw; (try dsimp only at hSw); go_simp; try with_reducible rfl)
        (try simp only [Act.put, List.setIfInBounds_toArray, List.set_cons_zero, List.set_cons_succ])
        refine wpAnyH_take (i := 4) (oi := ?oi4) (v := ?v4) ?hi4 (by kernel_rfl) (by kernel_rfl) (by kernel_rfl) ?hQ4 ?hy4 (by assumption) ?hrest4
        case hi4 => (simp only [List.getElem?_toArray, List.getElem?_cons_succ, List.getElem?_cons_zero]; try rfl)
        case hQ4 => exact fun _ _ _ h => h
        case hy4 =>
          refine Or.inl ⟨by rfl, ?_⟩
          (intro wq hSw; (try dsimp only at hSw); go_simp; try with_reducible rfl)
        (try simp only [Act.put, List.setIfInBounds_toArray, List.set_cons_zero, List.set_cons_succ])
        refine wpAnyH_take (i := 5) (oi := ?oi5) (v := ?v5) ?hi5 (by kernel_rfl) (by kernel_rfl) (by kernel_rfl) ?hQ5 ?hy5 (by assumption) ?hrest5
        case hi5 => (simp only [List.getElem?_toArray, List.getElem?_cons_succ, List.getElem?_cons_zero]; try rfl)
        case hQ5 => exact fun _ _ _ h => h
        case hy5 =>
          refine Or.inl ⟨by rfl, ?_⟩
          (intro wq hSw; (try dsimp only at hSw); go_simp; try with_reducible rfl)
        (try simp only [Act.put, List.setIfInBounds_toArray, List.set_cons_zero, List.set_cons_succ])
        refine wpAnyH_ready (rs := [2, 6]) (by kernel_rfl) (by simp) ?_
        refine AllReadyH.cons (o := ?oi6) ?hi6 (fun K hK => ?hstep6) ?hmore6
        case hi6 => (simp only [List.getElem?_toArray, List.getElem?_cons_succ, List.getElem?_cons_zero]; try rfl)
        case hstep6 =>
          (refine oper_app2 rfl (.tmp 37) (.tmp 38) 26 rfl w2.heap.size 5 Tryd.underlying26 infoB rfl (by decide) vk lk.length (lk.map byt) rfl P.own An nt cn ((tx nm).map byt) rfl (by rw [List.length_map, ← hnt.out]; omega) (RN.below bcur) (byt_one _) (by omega) (by omega) P.bs ?_; intro v5 w5 own5 hg5 hat5; have own5' : w5.ownsRow w2.heap.size 5 1 v5 (lk ++ tx nm).length ((lk ++ tx nm).map byt) := (by rw [List.length_append, ← hnt.out, List.map_append]; exact own5); have T5 := Tv.app hg5 hat5; (try have nB := T5.apart (cell_lt r1) nB); (try have r1 := T5.cell r1 (by assumption)); have P := P.tv T5 own5'; clear bcur)
          refine hK.out _ _ ?_ (fun hHeld => ?_)
          · exact P.cell 1 _ rfl
          clear hK K
          (try simp only [Act.put, List.setIfInBounds_toArray, List.set_cons_zero, List.set_cons_succ])
          refine wpAnyH_ready (rs := [6]) (by kernel_rfl) (by simp) ?_
          refine AllReadyH.cons (o := ?oi7) ?hi7 (fun K hK => ?hstep7) AllReadyH.nil
          case hi7 => (simp only [List.getElem?_toArray, List.getElem?_cons_succ, List.getElem?_cons_zero]; try rfl)
          go_simp
          ((first | refine newvar_Kd ?_ | refine newvar_K ?_); intro wx hbx nv nf nz; have r1 := nv 0 _ rfl; have nB := P.apart (Nat.le_refl _); have P := P.below hbx; (try have bcur := below_step bcur hbx); clear nv nf)
          refine hK.out _ _ ?_ (fun hHeld => ?_)
          · exact P.cell 1 _ rfl
          clear hK K
          (try simp only [Act.put, List.setIfInBounds_toArray, List.set_cons_zero, List.set_cons_succ])
          refine wpAnyH_ready (rs := [7]) (by kernel_rfl) (by simp) ?_
          refine AllReadyH.cons (o := ?oi8) ?hi8 (fun K hK => ?hstep8) AllReadyH.nil
          case hi8 => (simp only [List.getElem?_toArray, List.getElem?_cons_succ, List.getElem?_cons_zero]; try rfl)
          go_simp
          (refine (pnums_any (c := 1) P.own P.bs (ns := [(ps.length : Int)]) 1 rfl (rdq1 r1) (fun ad ha => by cases ha; exact nB) (fun ad ha => by cases ha; exact cell_lt r1) (by rw [List.length_append, ← hnt.out]; omega)).mono ?_; rintro e w8 ⟨v8, rfl, own8, T8⟩; have P := P.tv T8 own8)
          refine hK.out _ _ ?_ (fun hHeld => ?_)
          · exact P.cell 1 _ rfl
          clear hK K
          (try simp only [Act.put, List.setIfInBounds_toArray, List.set_cons_zero, List.set_cons_succ])
          refine wpAnyH_take (i := 8) (oi := ?oi9) (v := ?v9) ?hi9 (by kernel_rfl) (by kernel_rfl) (by kernel_rfl) ?hQ9 ?hy9 (by assumption) ?hrest9
          case hi9 => (simp only [List.getElem?_toArray, List.getElem?_cons_succ, List.getElem?_cons_zero]; try rfl)
          case hQ9 => exact fun _ _ _ h => h
          case hy9 =>
            refine Or.inl ⟨by rfl, ?_⟩
            (intro wq hSw; (try dsimp only at hSw); go_simp; try with_reducible rfl)
          (try simp only [Act.put, List.setIfInBounds_toArray, List.set_cons_zero, List.set_cons_succ])
          refine wpAnyH_done (by kernel_rfl) ?_ _
          refine NoPanic.normal ?_
          ((go_wp2_with fail); go_meet; exact ⟨_, rfl, by rw [nsB_one, List.append_assoc] at P; exact P⟩)
        refine AllReadyH.cons (o := ?oi10) ?hi10 (fun K hK => ?hstep10) ?hmore10
        case hi10 => (simp only [List.getElem?_toArray, List.getElem?_cons_succ, List.getElem?_cons_zero]; try rfl)
        case hstep10 =>
          go_simp
          ((first | refine newvar_Kd ?_ | refine newvar_K ?_); intro wx hbx nv nf nz; have r1 := nv 0 _ rfl; have nB := P.apart (Nat.le_refl _); have P := P.below hbx; (try have bcur := below_step bcur hbx); clear nv nf)
          refine hK.out _ _ ?_ (fun hHeld => ?_)
          · exact P.cell 1 _ rfl
          clear hK K
          (try simp only [Act.put, List.setIfInBounds_toArray, List.set_cons_zero, List.set_cons_succ])
          refine wpAnyH_ready (rs := [2]) (by kernel_rfl) (by simp) ?_
          refine AllReadyH.cons (o := ?oi11) ?hi11 (fun K hK => ?hstep11) AllReadyH.nil
          case hi11 => (simp only [List.getElem?_toArray, List.getElem?_cons_succ, List.getElem?_cons_zero]; try rfl)
          (refine oper_app2 rfl (.tmp 37) (.tmp 38) 26 rfl w2.heap.size 5 Tryd.underlying26 infoB rfl (by decide) vk lk.length (lk.map byt) rfl P.own An nt cn ((tx nm).map byt) rfl (by rw [List.length_map, ← hnt.out]; omega) (RN.below bcur) (byt_one _) (by omega) (by omega) P.bs ?_; intro v5 w5 own5 hg5 hat5; have own5' : w5.ownsRow w2.heap.size 5 1 v5 (lk ++ tx nm).length ((lk ++ tx nm).map byt) := (by rw [List.length_append, ← hnt.out, List.map_append]; exact own5); have T5 := Tv.app hg5 hat5; (try have nB := T5.apart (cell_lt r1) nB); (try have r1 := T5.cell r1 (by assumption)); have P := P.tv T5 own5'; clear bcur)
          refine hK.out _ _ ?_ (fun hHeld => ?_)
          · exact P.cell 1 _ rfl
          clear hK K
          (try simp only [Act.put, List.setIfInBounds_toArray, List.set_cons_zero, List.set_cons_succ])
          refine wpAnyH_ready (rs := [7]) (by kernel_rfl) (by simp) ?_
          refine AllReadyH.cons (o := ?oi12) ?hi12 (fun K hK => ?hstep12) AllReadyH.nil
          case hi12 => (simp only [List.getElem?_toArray, List.getElem?_cons_succ, List.getElem?_cons_zero]; try rfl)
          go_simp
          (refine (pnums_any (c := 1) P.own P.bs (ns := [(ps.length : Int)]) 1 rfl (rdq1 r1) (fun ad ha => by cases ha; exact nB) (fun ad ha => by cases ha; exact cell_lt r1) (by rw [List.length_append, ← hnt.out]; omega)).mono ?_; rintro e w8 ⟨v8, rfl, own8, T8⟩; have P := P.tv T8 own8)
          refine hK.out _ _ ?_ (fun hHeld => ?_)
          · exact P.cell 1 _ rfl
          clear hK K
          (try simp only [Act.put, List.setIfInBounds_toArray, List.set_cons_zero, List.set_cons_succ])
          refine wpAnyH_take (i := 8) (oi := ?oi13) (v := ?v13) ?hi13 (by kernel_rfl) (by kernel_rfl) (by kernel_rfl) ?hQ13 ?hy13 (by assumption) ?hrest13
          case hi13 => (simp only [List.getElem?_toArray, List.getElem?_cons_succ, List.getElem?_cons_zero]; try rfl)
          case hQ13 => exact fun _ _ _ h => h
          case hy13 =>
            refine Or.inl ⟨by rfl, ?_⟩
            (intro wq hSw; (try dsimp only at hSw); go_simp; try with_reducible rfl)
          (try simp only [Act.put, List.setIfInBounds_toArray, List.set_cons_zero, List.set_cons_succ])
          refine wpAnyH_done (by kernel_rfl) ?_ _
          refine NoPanic.normal ?_
          ((go_wp2_with fail); go_meet; exact ⟨_, rfl, by rw [nsB_one, List.append_assoc] at P; exact P⟩)
        exact AllReadyH.nil
      case rest =>
      clear P2 RN
      obtain ⟨v1, hv1, P⟩ := hcut
      replace hv1 := hv1.symm
      subst hv1
      obtain ⟨l1, hl1⟩ : ∃ l1, l1 = lk ++ (tx nm ++ be 8 ps.length) := ⟨_, rfl⟩
      have hl1n : l1.length ≤ 16900000 := by rw [hl1]; simp only [List.length_append, tx_length, be_length]; omega
      rw [← hl1] at P
      replace hl1 := hid hl1
      have C1 := P.cell 1 _ rfl
      have hP := hid P
      clear P
      go_wp2_with fail
      go_loopw [4, 48] (fun b i W => ∃ (j : Nat) (vj : Value), j ≤ ps.length ∧ i = .int .i64 j ∧ b = vj ∧ Pb w2 5 w2.heap.size cb [.string (str nm), .slice pA ps.length pc, .int .i64 res, .int .i64 slots, .slice iA is.length ic] W vj (l1 ++ nsB (ps.take j))) (fun _ i _ => ps.length - (RowKit.intOf i).toNat)
      case atStart => exact ⟨0, v1, by omega, rfl, rfl, by have := hP.out; simpa [nsB] using this⟩
      case round =>
        obtain ⟨j, vj, hj, rfl, hs0, P⟩ := hrel
        replace hs0 := hs0.symm
        subst hs0
        clear hP C1
        by_cases hlj : j < ps.length
        · have i2 : (j : Int) < ps.length := by omega
          obtain ⟨ad2, hA2, x0⟩ := ty_at (hp.below P.bel) j hlj
          have hln : (l1 ++ nsB (ps.take j)).length ≤ 16900128 := by rw [List.length_append, nsB_len, List.length_take]; omega
          have hST : Hid ((l1 ++ nsB (ps.take j)) ++ nsB [ps[j]] = l1 ++ nsB (ps.take (j + 1))) := by rw [nsB_step ps j hlj, nsB_one, List.append_assoc]; exact hid rfl
          generalize l1 ++ nsB (ps.take j) = lj at P hln hST
          generalize ps[j] = x at x0 hST
          have bB := below_alloc wr (.cells #[.int .i64 x] 2)
          have rB := rd_box wr #[.int .i64 x] 2
          have zB : wr.heap.size < (wr.alloc (.cells #[.int .i64 x] 2)).heap.size := by simp
          have PB := P.below bB
          have K := pnums_any (c := 1) PB.own PB.bs (ns := [x]) 1 rfl rB (fun ad ha => by cases ha; exact P.apart (Nat.le_refl _)) (fun ad ha => by cases ha; exact zB) (by omega)
          replace K := hid K
          replace PB := hid PB
          clear rB bB zB
          rw [hA2] at *
          replace hA2 := hid hA2
          replace P := hid P
          go_wp2_with fail
          refine K.out.mono ?_
          rintro e w8 ⟨v8, rfl, own8, T8⟩
          have P8 := PB.out.tv T8 own8
          clear K PB T8 own8 x0
          rw [hST.out] at P8
          replace hST := hid hST
          go_wp2_with fail
          go_roundw
          case rel => exact ⟨j + 1, v8, by omega, by go_num, rfl, P8⟩
          case measure => simp [RowKit.intOf]; omega
        · obtain rfl : j = ps.length := by omega
          rw [List.take_of_length_le (Nat.le_refl _)] at P
          obtain ⟨l2, hl2⟩ : ∃ l2, l2 = l1 ++ nsB ps := ⟨_, rfl⟩
          have hl2n : l2.length ≤ 16900128 := by rw [hl2, List.length_append, nsB_len]; omega
          rw [← hl2] at P
          replace hl2 := hid hl2
          have C2 := P.cell 2 _ rfl
          have C3 := P.cell 3 _ rfl
          have C4 := P.cell 4 _ rfl
          have bB := below_alloc wr (.cells #[.int .i64 res, .int .i64 slots, .int .i64 (is.length : Int)] 2)
          have rB := rd_box wr #[.int .i64 res, .int .i64 slots, .int .i64 (is.length : Int)] 2
          have zB : wr.heap.size < (wr.alloc (.cells #[.int .i64 res, .int .i64 slots, .int .i64 (is.length : Int)] 2)).heap.size := by simp
          have PB := P.below bB
          have K := pnums_any (c := 3) PB.own PB.bs (ns := [res, slots, (is.length : Int)]) 3 rfl rB (fun ad ha => by cases ha; exact P.apart (Nat.le_refl _)) (fun ad ha => by cases ha; exact zB) (by omega)
          replace K := hid K
          replace PB := hid PB
          clear rB bB zB
          replace P := hid P
          go_wp2_with fail
          refine K.out.mono ?_
          rintro e w8 ⟨v8, rfl, own8, T8⟩
          have P8 := PB.out.tv T8 own8
          clear K PB T8 own8 C2 C3 C4 P
          obtain ⟨l3, hl3⟩ : ∃ l3, l3 = l2 ++ nsB [res, slots, (is.length : Int)] := ⟨_, rfl⟩
          have hl3n : l3.length ≤ 16900152 := by rw [hl3, List.length_append, nsB_len]; simp; omega
          rw [← hl3] at P8
          replace hl3 := hid hl3
          have C4 := P8.cell 4 _ rfl
          have hP := hid P8
          clear P8
          go_wp2_with fail
          go_loopw [4, 70] (fun b i W => ∃ (j : Nat) (vj : Value), j ≤ is.length ∧ i = .int .i64 j ∧ b = vj ∧ Pb w2 5 w2.heap.size cb [.string (str nm), .slice pA ps.length pc, .int .i64 res, .int .i64 slots, .slice iA is.length ic] W vj (l3 ++ (is.take j).flatMap putI)) (fun _ i _ => is.length - (RowKit.intOf i).toNat)
          case atStart => exact ⟨0, v8, by omega, rfl, rfl, by have := hP.out; simpa using this⟩
          case round =>
            obtain ⟨j, vj, hj, rfl, hs0, P⟩ := hrel
            replace hs0 := hs0.symm
            subst hs0
            clear hP C4
            by_cases hlj : j < is.length
            · have i2 : (j : Int) < is.length := by omega
              obtain ⟨ad2, hA2, x0, x1⟩ := ins_at (hi.below P.bel) j hlj
              have hln : (l3 ++ (is.take j).flatMap putI).length ≤ 17170000 := by rw [List.length_append, flatI_len, List.length_take]; omega
              have hST : Hid ((l3 ++ (is.take j).flatMap putI) ++ nsB [is[j].1, is[j].2] = l3 ++ (is.take (j + 1)).flatMap putI) := by rw [flatI_step is j hlj, nsB_two, List.append_assoc]; exact hid rfl
              generalize l3 ++ (is.take j).flatMap putI = lj at P hln hST
              generalize is[j] = x at x0 x1 hST
              obtain ⟨x, y⟩ := x
              dsimp only at x0 x1 hST
              have bI := below_alloc wr (.cells #[.int .i64 x, .int .i64 y] 50)
              have RI := Row.new wr [.int .i64 x, .int .i64 y] 50
              have PI := P.below bI
              rw [hA2] at *
              replace hA2 := hid hA2
              replace P := hid P
              go_upto_region 18 with fail
              change Row (wr.alloc (.cells #[.int .i64 x, .int .i64 y] 50)) _ _ at RI
              obtain ⟨cI, hcI⟩ : ∃ cI, cI = wr.heap.size := ⟨_, rfl⟩
              generalize wr.alloc (.cells #[.int .i64 x, .int .i64 y] 50) = wI at bI RI PI ⊢
              rw [← hcI] at RI ⊢
              replace hcI := hid hcI
              clear x0 x1 P bI
              have X0 := (RI.2 0 _ rfl).1
              have X1 := (RI.2 1 _ rfl).1
              replace RI := hid RI
              have bB := below_alloc wI (.cells #[.int .i64 x, .int .i64 y] 2)
              have rB := rd_box wI #[.int .i64 x, .int .i64 y] 2
              have zB : wI.heap.size < (wI.alloc (.cells #[.int .i64 x, .int .i64 y] 2)).heap.size := by simp
              have PB := PI.below bB
              have K := pnums_any (c := 2) PB.own PB.bs (ns := [x, y]) 2 rfl rB (fun ad ha => by cases ha; exact PI.apart (Nat.le_refl _)) (fun ad ha => by cases ha; exact zB) (by omega)
              replace K := hid K
              replace PB := hid PB
              replace PI := hid PI
              clear rB bB zB
              go_wp2_with fail
              refine K.out.mono ?_
              rintro e w9 ⟨v9, rfl, own9, T9⟩
              have P9 := PB.out.tv T9 own9
              clear K PB PI T9 own9 X0 X1
              rw [hST.out] at P9
              replace hST := hid hST
              go_wp2_with fail
              go_roundw
              case rel => exact ⟨j + 1, v9, by omega, by go_num, rfl, P9⟩
              case measure => simp [RowKit.intOf]; omega
            · obtain rfl : j = is.length := by omega
              rw [List.take_of_length_le (Nat.le_refl _)] at P
              have hfin : l3 ++ is.flatMap putI = be 8 (m.cs.length : Int) ++ ((m.cs.map Co.data).take (k + 1)).flatMap putC := by
                rw [hl3.out, hl2.out, hl1.out, HST2.out]
                simp only [List.append_assoc]
              rw [hfin] at P
              replace hfin := hid hfin
              go_wp2_with fail
              go_roundw
              case rel => exact ⟨k + 1, vj, by omega, by go_num, rfl, P.own, P.bel, P.bs⟩
              case measure => simp [RowKit.intOf]; omega
    · obtain rfl : k = m.cs.length := by omega
      have hlk : (be 8 m.cs.length ++ ((m.cs.map Co.data).take m.cs.length).flatMap putC).length ≤ 16800000 := by
        have := (hcb.out m.cs.length).2
        rw [List.length_append, be_length]; omega
      rw [List.take_of_length_le (by simp)] at ownk hlk
      obtain ⟨lk, elk⟩ : ∃ lk, lk = be 8 (m.cs.length : Int) ++ (m.cs.map Co.data).flatMap putC := ⟨_, rfl⟩
      rw [← elk] at ownk hlk
      have hall : lk ++ rw' (m.ts.map SlR.l) = putMo m.data := by
        rw [elk]; unfold putMo Mo.data; dsimp only; rw [List.length_map]
      replace elk := hid elk
      have K := putrow_any (c := m.tc) (slEl_row (h2.out.t.below bk)) (by rw [List.length_map]; omega)
      rw [putRowR_ok (by rw [List.length_map]; exact htl) (fun i hi => Nat.le_trans (htf.out _ (List.getElem_mem hi)) (by decide)), List.length_map] at K
      have C1 := ((D.out _ bk).2 1 _ rfl).1
      replace K := hid K
      go_wp2_with fail
      refine K.out.mono ?_
      rintro e w6 ⟨vt, rfl, ownt, hb6⟩
      clear K C1
      obtain ⟨At, ct, rfl, _, _, _⟩ := own_shape ownt
      have RT := own_rd ownt
      have ownk6 := own_below ownk hb6
      have bk6 := bk.trans (hb6.mono sk)
      have sk6 := Nat.le_trans sk hb6.size
      obtain ⟨nt, hnt⟩ : ∃ nt, nt = (rw' (m.ts.map SlR.l)).length := ⟨_, rfl⟩
      have hnt2 : nt ≤ 17000000 := by have := hsz.out; rw [← hall, List.length_append] at this; omega
      rw [← hnt]
      replace hnt := hid hnt
      clear ownk ownt bk hb6 sk
      go_wp2_with (at_builtin; refine wpList_app rfl (.tmp 92) (.tmp 93) 26 rfl w2.heap.size 5 Tryd.underlying26 infoB rfl (by decide) vk lk.length (lk.map byt) rfl ownk6 At nt ct ((rw' (m.ts.map SlR.l)).map byt) rfl (by rw [List.length_map, ← hnt.out]; omega) RT (byt_one _) (by omega) (by omega) sk6 ?_; intro v9 w9 own9 hg9 hat9)
      go_ret2
      rw [hnt.out, ← List.length_append, ← List.map_append, hall] at own9
      exact ⟨v9, by rw [e.out]; rfl, by rw [e.out]; exact own_mono own9 b0.size, b0.trans ((bk6.trans ((Tv.app hg9 hat9).below ownk6 sk6)).mono b0.size)⟩
end Go.Proofs.YtnkocbdbfkhgmaaDoor
