import Derived.Test.YtkmeoobbjdbhjaaStoreR
namespace Go.Proofs.Ytkmeoobbjdbhjaa
open Go.RowKit Go.Cov Go.Lib
set_option maxRecDepth 100000 in
set_option maxHeartbeats 1600000 in
theorem rread_st {B : Option Addr} {d : Nat} {b : List UInt8} {w : World} (h : Rd w B (b.map byt)) (hc : b.length ≤ d) (hl : b.length ≤ 140737488351236) :
    Calls Try.prog 21 #[.slice B b.length d] w fun e w' => ∃ C q ys, e = .returned (.tuple #[.slice C (ys : List Pr).length q, .int .i64 (readP b).2]) ∧ St w' C q ys (readP b).1 ∧ Below w.heap.size w w' := by
  have KRow := rrow_any h hc hl 0
  have hle := rowR_le b 0
  obtain ⟨ls, p, er, hrow⟩ : ∃ ls p er, rowR b 0 = (ls, p, er) := ⟨_, _, _, rfl⟩
  have hR : readP b = if er ≠ 0 then ([], er) else if p = b.length ∧ ls.length = 2 * (unflat ls).length ∧ rightP (unflat ls) = true then (unflat ls, 0) else ([], 111) := by rw [readP, hrow]
  rw [hrow] at KRow hle
  have KW := hid KRow
  clear hrow KRow
  have hle : ls.length ≤ 1024 := hle
  by_cases her : er = 0
  · subst her
    rw [if_neg (by simp)] at hR
    have HR := hid hR
    clear hR
    go_enter Try.func21, Try.ntmps21
    go_wp2_with fail
    refine KW.out.mono ?_
    rintro e w2 ⟨v2, rfl, hown2, hb2⟩
    obtain ⟨A2, c2, rfl, hc2, _, hrd⟩ := hown2.rd
    clear hown2
    by_cases hpb : p = (b.length : Int)
    · by_cases hev : ls.length % 2 = 1
      · have q2 : ((ls.length : Int) % 2 == 1) = true := by simp; omega
        have HV := hid (show readP b = ([], 111) from HR.out.trans (if_neg (fun hh => by omega)))
        have q1 : (p != (b.length : Int)) = false := by simpa using hpb
        clear hpb hev
        go_wp2_with fail
        go_ret2
        rw [HV.out]
        exact ⟨none, 0, [], rfl, ⟨Els.nil _ _ _, Nat.le_refl _, rfl⟩, hb2⟩
      · have q2 : ((ls.length : Int) % 2 == 1) = false := by simp; omega
        have q1 : (p != (b.length : Int)) = false := by simpa using hpb
        have HPB := hid hpb
        have HEV := hid (show ∃ z, ls.length = 2 * z from ⟨ls.length / 2, by omega⟩)
        clear hpb hev
        go_wp2_with fail
        go_loopw [7, 8] (fun v i W => ∃ (j : Nat) (outs : List Pr), j ≤ ls.length ∧ Hid (∃ k, j = 2 * k) ∧ i = .int .i64 j ∧ OwnEls prEl W w2.heap.size 42 v outs ∧ outs.map Pr.data = unflat (ls.take j) ∧ Below w2.heap.size w2 W) (fun _ i _ => ls.length + 2 - (RowKit.intOf i).toNat)
        case atStart => exact ⟨0, [], by omega, hid ⟨0, rfl⟩, rfl, OwnEls.nil _ _ _ _, rfl, Below.refl _ _⟩
        case round =>
          obtain ⟨j, outs, hj, Hev, rfl, hown, hout, hb⟩ := hrel
          have e1 : IntKind.i64.wrap ((j : Int) + 1) = (j : Int) + 1 := wrap_of _ (by omega) (by omega)
          by_cases hlt0 : j < ls.length
          · have hlt : j + 1 < ls.length := by obtain ⟨k, hk⟩ := Hev.out; obtain ⟨z, hz⟩ := HEV.out; omega
            have i0 : (j : Int) < ls.length := by omega
            have i1 : (j : Int) + 1 < ls.length := by omega
            have i2 : (0 : Int) ≤ (j : Int) + 1 := by omega
            obtain ⟨ad, KA, kc, rfl, h1, hk1, hk2, hk3⟩ := hrd.at' j (by omega)
            obtain ⟨ad', VA, vc, he, h2, hv1, hv2, hv3⟩ := hrd.at' (j + 1) hlt
            cases he
            have hst : unflat (ls.take (j + 2)) = unflat (ls.take j) ++ [(ls[j], ls[j + 1])] := by
              obtain ⟨k, rfl⟩ := Hev.out
              exact unflat_step hlt
            have hol : outs.length ≤ 1024 := by
              obtain ⟨k, hk⟩ := Hev.out
              have := congrArg List.length hout
              rw [List.length_map, unflat_len k _ (by rw [List.length_take]; omega)] at this
              omega
            rw [← hout] at hst
            have HST := hid hst
            have HOL := hid hol
            clear hst hout hol
            generalize hx : ls[j] = x at h1 HST hk1 hk2 hk3
            generalize hy : ls[j + 1] = y at h2 HST hv1 hv2 hv3
            clear hx hy
            have hbs := hb.size
            have slk : Sl w2 (.slice KA x.length kc) x := ⟨KA, kc, rfl, hk1, hk2, hk3⟩
            have slv : Sl w2 (.slice VA y.length vc) y := ⟨VA, vc, rfl, hv1, hv2, hv3⟩
            have h1q := fun W (hW : Below w2.heap.size wr W) => cell_on (hb.trans hW) h1
            have h2q := fun W (hW : Below w2.heap.size wr W) => (show W.cell? ⟨ad.block, ad.off + (j + 1), none⟩ = some (.slice VA y.length vc) from by have := cell_on (hb.trans hW) h2; rwa [Addr.add, if_neg (by omega)] at this)
            have j63 : (outs.length + 1) * 48 ≤ 140737488355328 ∧ outs.length + 1 ≤ 140737488355328 := by have := HOL.out; omega
            clear hk1 hk2 hk3 hv1 hv2 hv3
            go_upto_region 10 with fail
            refine wp_region_noPanic ?_
            refine wp_region_held_drew (S := (fun W => Below w2.heap.size wr W)) (by kernel_rfl) ?_ (fun hHeld => ?_)
            · exact (Below.refl _ _).drew
            refine wpAnyH_take (i := 0) (oi := ?oi1) (v := ?v1) ?hi1 (by kernel_rfl) (by kernel_rfl) (by kernel_rfl) ?hQ1 ?hy1 (by assumption) ?hrest1
            case hi1 => (simp only [List.getElem?_toArray, List.getElem?_cons_zero]; try rfl)
            case hQ1 => exact fun _ _ _ h => h
            case hy1 =>
              refine Or.inl ⟨by rfl, ?_⟩
              (intro wq hSw; (try dsimp only at hSw); go_simp; try with_reducible rfl)
            (try simp only [Act.put, List.setIfInBounds_toArray, List.set_cons_zero, List.set_cons_succ])
            refine wpAnyH_take (i := 1) (oi := ?oi2) (v := ?v2) ?hi2 (by kernel_rfl) (by kernel_rfl) (by kernel_rfl) ?hQ2 ?hy2 (by assumption) ?hrest2
            case hi2 => (simp only [List.getElem?_toArray, List.getElem?_cons_succ, List.getElem?_cons_zero]; try rfl)
            case hQ2 => exact fun _ _ _ h => h
            case hy2 =>
              refine Or.inl ⟨by rfl, ?_⟩
              (intro wq hSw; (try dsimp only at hSw); go_simp; try with_reducible rfl)
            (try simp only [Act.put, List.setIfInBounds_toArray, List.set_cons_zero, List.set_cons_succ])
            refine wpAnyH_take (i := 2) (oi := ?oi3) (v := ?v3) ?hi3 (by kernel_rfl) (by kernel_rfl) (by kernel_rfl) ?hQ3 ?hy3 (by assumption) ?hrest3
            case hi3 => (simp only [List.getElem?_toArray, List.getElem?_cons_succ, List.getElem?_cons_zero]; try rfl)
            case hQ3 => exact fun _ _ _ h => h
            case hy3 =>
              refine Or.inl ⟨by rfl, ?_⟩
              (intro wq hSw; (try dsimp only at hSw); go_simp; try with_reducible rfl)
            (try simp only [Act.put, List.setIfInBounds_toArray, List.set_cons_zero, List.set_cons_succ])
            refine wpAnyH_take (i := 3) (oi := ?oi4) (v := ?v4) ?hi4 (by kernel_rfl) (by kernel_rfl) (by kernel_rfl) ?hQ4 ?hy4 (by assumption) ?hrest4
            case hi4 => (simp only [List.getElem?_toArray, List.getElem?_cons_succ, List.getElem?_cons_zero]; try rfl)
            case hQ4 => exact fun _ _ _ h => h
            case hy4 =>
              refine Or.inl ⟨by rfl, ?_⟩
              (intro wq hSw; (try dsimp only at hSw); go_simp; try with_reducible rfl)
            (try simp only [Act.put, List.setIfInBounds_toArray, List.set_cons_zero, List.set_cons_succ])
            refine wpAnyH_take (i := 4) (oi := ?oi5) (v := ?v5) ?hi5 (by kernel_rfl) (by kernel_rfl) (by kernel_rfl) ?hQ5 ?hy5 (by assumption) ?hrest5
            case hi5 => (simp only [List.getElem?_toArray, List.getElem?_cons_succ, List.getElem?_cons_zero]; try rfl)
            case hQ5 => exact fun _ _ _ h => h
            case hy5 =>
              refine Or.inl ⟨by rfl, ?_⟩
              (intro wq hSw; (try dsimp only at hSw); go_simp; try with_reducible rfl)
            (try simp only [Act.put, List.setIfInBounds_toArray, List.set_cons_zero, List.set_cons_succ])
            refine wpAnyH_take (i := 5) (oi := ?oi6) (v := ?v6) ?hi6 (by kernel_rfl) (by kernel_rfl) (by kernel_rfl) ?hQ6 ?hy6 (by assumption) ?hrest6
            case hi6 => (simp only [List.getElem?_toArray, List.getElem?_cons_succ, List.getElem?_cons_zero]; try rfl)
            case hQ6 => exact fun _ _ _ h => h
            case hy6 =>
              refine Or.inl ⟨by rfl, ?_⟩
              (intro wq hSw; (try dsimp only at hSw); go_simp; try with_reducible rfl)
            (try simp only [Act.put, List.setIfInBounds_toArray, List.set_cons_zero, List.set_cons_succ])
            refine wpAnyH_take (i := 6) (oi := ?oi7) (v := ?v7) ?hi7 (by kernel_rfl) (by kernel_rfl) (by kernel_rfl) ?hQ7 ?hy7 (by assumption) ?hrest7
            case hi7 => (simp only [List.getElem?_toArray, List.getElem?_cons_succ, List.getElem?_cons_zero]; try rfl)
            case hQ7 => exact fun _ _ _ h => h
            case hy7 =>
              refine Or.inl ⟨by rfl, ?_⟩
              (intro wq hSw; (try dsimp only at hSw); go_simp; try with_reducible rfl)
            (try simp only [Act.put, List.setIfInBounds_toArray, List.set_cons_zero, List.set_cons_succ])
            refine wpAnyH_take (i := 7) (oi := ?oi8) (v := ?v8) ?hi8 (by kernel_rfl) (by kernel_rfl) (by kernel_rfl) ?hQ8 ?hy8 (by assumption) ?hrest8
            case hi8 => (simp only [List.getElem?_toArray, List.getElem?_cons_succ, List.getElem?_cons_zero]; try rfl)
            case hQ8 => exact fun _ _ _ h => h
            case hy8 =>
              refine Or.inl ⟨by rfl, ?_⟩
              (intro wq hSw; (try dsimp only at hSw); go_simp; try with_reducible rfl)
            (try simp only [Act.put, List.setIfInBounds_toArray, List.set_cons_zero, List.set_cons_succ])
            refine wpAnyH_take (i := 8) (oi := ?oi9) (v := ?v9) ?hi9 (by kernel_rfl) (by kernel_rfl) (by kernel_rfl) ?hQ9 ?hy9 (by assumption) ?hrest9
            case hi9 => (simp only [List.getElem?_toArray, List.getElem?_cons_succ, List.getElem?_cons_zero]; try rfl)
            case hQ9 => exact fun _ _ _ h => h
            case hy9 =>
              refine Or.inl ⟨by rfl, ?_⟩
              (intro wq hSw; (try dsimp only at hSw); go_simp; try with_reducible rfl)
            (try simp only [Act.put, List.setIfInBounds_toArray, List.set_cons_zero, List.set_cons_succ])
            refine wpAnyH_take (i := 9) (oi := ?oi10) (v := ?v10) ?hi10 (by kernel_rfl) (by kernel_rfl) (by kernel_rfl) ?hQ10 ?hy10 (by assumption) ?hrest10
            case hi10 => (simp only [List.getElem?_toArray, List.getElem?_cons_succ, List.getElem?_cons_zero]; try rfl)
            case hQ10 => exact fun _ _ _ h => h
            case hy10 =>
              refine Or.inl ⟨by rfl, ?_⟩
              (intro wq hSw; (try dsimp only at hSw); go_simp; try with_reducible rfl)
            (try simp only [Act.put, List.setIfInBounds_toArray, List.set_cons_zero, List.set_cons_succ])
            refine wpAnyH_take (i := 10) (oi := ?oi11) (v := ?v11) ?hi11 (by kernel_rfl) (by kernel_rfl) (by kernel_rfl) ?hQ11 ?hy11 (by assumption) ?hrest11
            case hi11 => (simp only [List.getElem?_toArray, List.getElem?_cons_succ, List.getElem?_cons_zero]; try rfl)
            case hQ11 => exact fun _ _ _ h => h
            case hy11 =>
              refine Or.inl ⟨by rfl, ?_⟩
              (intro wq hSw; (try dsimp only at hSw); go_simp; try with_reducible rfl)
            (try simp only [Act.put, List.setIfInBounds_toArray, List.set_cons_zero, List.set_cons_succ])
            refine wpAnyH_ready (rs := [11]) (by kernel_rfl) (by simp) ?_
            refine AllReadyH.cons (o := ?oi12) ?hi12 (fun K hK => ?hstep12) AllReadyH.nil
            case hi12 => (simp only [List.getElem?_toArray, List.getElem?_cons_succ, List.getElem?_cons_zero]; try rfl)
            go_simp
            ((first | refine newvar_Kd ?_ | refine newvar_K ?_); intro wz hbx nv nf nz; have n0 := nv 0 _ rfl; have n1 := nv 1 _ rfl; have bz := below_step (Below.refl wr.heap.size wr).drew hbx; have own2 := hown.below bz; have hbz := hb.trans (bz.mono hbs); have hsz := hbz.size)
            refine hK.out _ _ ?_ (fun hHeld => ?_)
            · exact hHeld.trans (hbx.mono (by have := hHeld.size; omega))
            clear hK K
            (try simp only [Act.put, List.setIfInBounds_toArray, List.set_cons_zero, List.set_cons_succ])
            refine wpAnyH_ready (rs := [12]) (by kernel_rfl) (by simp) ?_
            refine AllReadyH.cons (o := ?oi13) ?hi13 (fun K hK => ?hstep13) AllReadyH.nil
            case hi13 => (simp only [List.getElem?_toArray, List.getElem?_cons_succ, List.getElem?_cons_zero]; try rfl)
            (refine oper_app2 rfl (.tmp 35) (.tmp 46) 22 rfl w2.heap.size 42 Try.underlying22 infoP rfl (by decide) u7 outs.length (outs.flatMap prEl.cells) rfl own2.1 (some ⟨wr.drew.heap.size, 0, none⟩) 1 1 [.slice KA x.length kc, .slice VA y.length vc] rfl rfl (rd2 n0 n1) (by intro u hu; simp at hu; rcases hu with rfl | rfl <;> rfl) j63.1 j63.2 hsz ?_; intro v5 w5 own5 hg5 hat5; have hnew := OwnEls.app (ys := [⟨KA, kc, x, VA, vc, y⟩]) own2.2 (row_off (x := ⟨KA, kc, x⟩) (y := ⟨VA, vc, y⟩) slk slv rfl hbz (fun kk hkk => (own2.lt hkk).1)) own5 hg5 hat5; have hb5 := hbz.grown hg5 hsz (fun kk hkk => (own2.lt hkk).1))
            refine hK.out _ _ ?_ (fun hHeld => ?_)
            · exact hHeld.grown hg5 hsz (fun kk hkk => (own2.lt hkk).1)
            clear hK K
            (try simp only [Act.put, List.setIfInBounds_toArray, List.set_cons_zero, List.set_cons_succ])
            refine wpAnyH_take (i := 13) (oi := ?oi14) (v := ?v14) ?hi14 (by kernel_rfl) (by kernel_rfl) (by kernel_rfl) ?hQ14 ?hy14 (by assumption) ?hrest14
            case hi14 => (simp only [List.getElem?_toArray, List.getElem?_cons_succ, List.getElem?_cons_zero]; try rfl)
            case hQ14 => exact fun _ _ _ h => h
            case hy14 =>
              refine Or.inl ⟨by rfl, ?_⟩
              (intro wq hSw; (try dsimp only at hSw); go_simp; try with_reducible rfl)
            (try simp only [Act.put, List.setIfInBounds_toArray, List.set_cons_zero, List.set_cons_succ])
            refine wpAnyH_done (by kernel_rfl) ?_ _
            refine NoPanic.normal ?_
            go_wp2_with fail
            go_roundw
            case rel =>
              refine ⟨j + 2, _, by omega, hid (by obtain ⟨k, rfl⟩ := Hev.out; exact ⟨k + 1, by omega⟩), by go_num, hnew, ?_, hb5⟩
              rw [List.map_append, HST.out]
              rfl
            case measure => simp [RowKit.intOf]; omega
          · have i1 : ¬ (j : Int) < ls.length := by omega
            have hlt : ¬ j + 1 < ls.length := by omega
            have hout2 : outs.map Pr.data = unflat ls := by
              obtain ⟨k, rfl⟩ := Hev.out
              rw [hout, unflat_end hj hlt]
            have hol : outs.length ≤ 1024 := by
              obtain ⟨k, hk⟩ := Hev.out
              have := congrArg List.length hout
              rw [List.length_map, unflat_len k _ (by rw [List.length_take]; omega)] at this
              omega
            clear hout
            obtain ⟨C, q, rfl, hs⟩ := own_st hown
            rw [hout2] at hs
            have hul : outs.length = (unflat ls).length := hs.len
            have hue : ls.length = 2 * (unflat ls).length := by
              obtain ⟨k, hk⟩ := Hev.out
              rw [unflat_len k ls (by omega)]
              omega
            have KR := hid (show Calls Try.prog 24 #[.slice C outs.length q] wr fun e w' => e = .returned (.bool (rightP (unflat ls))) ∧ Below wr.heap.size wr w' from by rw [← hs.2.2]; exact rright_pairs hs.1 (by omega))
            cases hr : rightP (unflat ls) with
            | true =>
              have HV := hid (show readP b = (unflat ls, 0) from HR.out.trans (if_pos ⟨HPB.out, hue, hr⟩))
              rw [hr] at KR
              clear hul hout2 hol hue
              go_wp2_with fail
              refine KR.out.mono ?_
              rintro e w3 ⟨rfl, hb3⟩
              go_wp2_with fail
              go_ret2
              rw [HV.out]
              exact ⟨C, q, outs, rfl, hs.below hb3, below_step hb2 (below_step hb hb3)⟩
            | false =>
              have HV := hid (show readP b = ([], 111) from HR.out.trans (if_neg (fun hh => by rw [hr] at hh; exact absurd hh.2.2 (by decide))))
              rw [hr] at KR
              clear hul hout2 hol hue
              go_wp2_with fail
              refine KR.out.mono ?_
              rintro e w3 ⟨rfl, hb3⟩
              go_wp2_with fail
              go_ret2
              rw [HV.out]
              exact ⟨none, 0, [], rfl, ⟨Els.nil _ _ _, Nat.le_refl _, rfl⟩, below_step hb2 (below_step hb hb3)⟩
    · have q1 : (p != (b.length : Int)) = true := by simpa using hpb
      have HV := hid (show readP b = ([], 111) from HR.out.trans (if_neg (fun hh => hpb hh.1)))
      clear hpb
      go_wp2_with fail
      go_ret2
      rw [HV.out]
      exact ⟨none, 0, [], rfl, ⟨Els.nil _ _ _, Nat.le_refl _, rfl⟩, hb2⟩
  · have q1 : (er != 0) = true := by simpa using her
    rw [if_pos her] at hR
    have HR := hid hR
    clear hR
    go_enter Try.func21, Try.ntmps21
    go_wp2_with fail
    refine KW.out.mono ?_
    rintro e w2 ⟨v2, rfl, hown2, hb2⟩
    obtain ⟨A2, c2, rfl, _, _, _⟩ := hown2.rd
    go_wp2_with fail
    go_ret2
    rw [HR.out]
    exact ⟨none, 0, [], rfl, ⟨Els.nil _ _ _, Nat.le_refl _, rfl⟩, hb2⟩
end Go.Proofs.Ytkmeoobbjdbhjaa
