import Derived.Test.YtgkdnhbhmebmeaaDoorPostA
import Derived.Test.YtgkdnhbhmebmeaaDoorPlain1
/-! post: the next numbers into places -/
namespace Go.Proofs.YtgkdnhbhmebmeaaDoor
open Go.RowKit Go.Cov
set_option maxHeartbeats 6400000 in
theorem intonum_any {w : World} {b c : Nat} {A : Option Addr} {l : List UInt8} {s : Int × Int} {ps : List (Addr × Value)} {T : Option Addr} {cT : Nat} {js : List Nat} (n : Nat) (hn : js.length = n) (hn2 : n ≤ 100) (h : Rr w b A c l s) (hM : Mem w ps) (B : Nat → Prop) (hB : B b) (hP : ∀ j, j < ps.length → B (adr ps j).block ∧ (adr ps j).block ≠ b ∧ (adr ps j).spot = none)
    (hA : l ≠ [] → ∀ ad, A = some ad → ¬ B ad.block) (hT : Rd w T (js.map (fun j => Value.pointer (some (adr ps j))))) (hTB : ∀ ad, T = some ad → ¬ B ad.block) (hj : ∀ j ∈ js, j < ps.length) :
    Calls Tryd.prog 27 #[.pointer (some ⟨b, 0, none⟩), .func (.func 28) #[] #[], .slice T n cT] w fun e w' => ∃ r, e = .returned r ∧ Rr w' b A c l (intoS (fun l a => getR l a 8) (Value.int .i64) l ps js s).2 ∧ Mem w' (intoS (fun l a => getR l a 8) (Value.int .i64) l ps js s).1 ∧ Gs B w w' := by
  replace hn := hid hn
  go_enter Tryd.func27, Tryd.ntmps27
  go_wp2_with fail
  go_loopw [7, 10] (fun _ i W => ∃ (k : Nat) (sk : Int × Int) (pk : List (Addr × Value)), k ≤ n ∧ i = .int .i64 k ∧ intoS (fun l a => getR l a 8) (Value.int .i64) l ps js s = intoS (fun l a => getR l a 8) (Value.int .i64) l pk (js.drop k) sk ∧ Rr W b A c l sk ∧ Mem W pk ∧ (pk.length = ps.length ∧ ∀ j, adr pk j = adr ps j) ∧ Gs B w W) (fun _ i _ => n - (RowKit.intOf i).toNat)
  case atStart => exact ⟨0, s, ps, by omega, rfl, rfl, h, hM, ⟨rfl, fun _ => rfl⟩, Gs.refl _ _⟩
  case round =>
    obtain ⟨k, sk, pk, hk, rfl, hin, hr, hm, ⟨hpl, hpa⟩, hG⟩ := hrel
    by_cases hlt : k < n
    · have i1 : (k : Int) < n := by omega
      have hkl : k < js.length := by have := hn.out; omega
      have hT2 := hG.rd hT (fun _ ad ha => hTB ad ha)
      obtain ⟨ad, rfl, x0⟩ := hT2 k (.pointer (some (adr ps js[k]))) (by simp [hkl])
      have hjk := hj js[k] (List.getElem_mem hkl)
      have C2 := (hr.row.2 2 _ rfl).1
      obtain ⟨p, er⟩ := sk
      by_cases hz : er = 0
      · subst hz
        have hst := intoS_step (fun l a => getR l a 8) (Value.int .i64) l pk js k hkl (p, 0) rfl
        obtain ⟨n1, p1, e1, hg⟩ : ∃ n1 p1 e1, getR l p 8 = (n1, p1, e1) := ⟨_, _, _, rfl⟩
        dsimp only at hst
        rw [hg] at hst
        rw [hst] at hin
        clear hst
        have HIN := hid hin
        clear hin
        obtain ⟨u, hu, Cq, Fq⟩ := hm.at' (j := js[k]) (by omega)
        have hm1 := hm.put (j := js[k]) (by omega) (.int .i64 n1)
        rw [hpa] at Cq Fq hm1
        obtain ⟨hq1, hq2, hq3⟩ := hP js[k] hjk
        have hpq : ∀ (i : Nat) (q : Addr) (v : Value), (putAt pk js[k] (Value.int .i64 n1))[i]? = some (q, v) → q.block ≠ b := fun i q v hi => by
          have hil : i < ps.length := by rw [← hpl, ← len_put pk js[k] (Value.int .i64 n1)]; exact (List.getElem?_eq_some_iff.1 hi).1
          have := adr_of hi
          rw [adr_put, hpa] at this
          rw [← this]; exact (hP i hil).2.1
        generalize hqq : adr ps js[k] = q at x0 Cq Fq hm1 hq1 hq2 hq3
        obtain ⟨qb, qo, qs⟩ := q
        dsimp only at hq1 hq2 hq3
        subst hq3
        have hne : ¬ b = qb := fun e => hq2 e.symm
        have KC := hid (fun W (hW : Rd W A (l.map byt)) => num_any hW hr.cap hr.len p)
        have C0 := (hr.row.2 0 _ rfl).1
        have C1 := (hr.row.2 1 _ rfl).1
        have F1 := (hr.row.2 1 _ rfl).2
        have F2 := (hr.row.2 2 _ rfl).2
        have hr1 := hr.gro (Gro.set qb qb qo wr (.int .i64 n1)) hne (fun hl ad ha he => hA hl ad ha (he ▸ hq1))
        have hr3 := (hr1.set1 p1).set2 e1
        have hm3 := (hm1.gro (Gro.set b b 1 _ (.int .i64 p1)) hpq).gro (Gro.set b b 2 _ (.int .i64 e1)) hpq
        have hG3 := ((hG.trans (Gs.set (p := ⟨qb, qo, none⟩) hq1 (.int .i64 n1))).trans (Gs.set (p := ⟨b, 1, none⟩) hB (.int .i64 p1))).trans (Gs.set (p := ⟨b, 2, none⟩) hB (.int .i64 e1))
        replace hr3 := hid hr3
        replace hm3 := hid hm3
        replace hG3 := hid hG3
        replace hqq := hid hqq
        have hrd := hr.rd
        clear hr1 hm1
        go_upto_region 4 with fail
        have bcur := (Below.refl wr.heap.size wr).drew
        refine wp_region_noPanic ?_
        refine wp_region_held_drew (S := (fun W => W.cell? ⟨b, 0, none⟩ = some (.slice A l.length c))) (by kernel_rfl) ?_ (fun hHeld => ?_)
        · exact C0
        refine wpAnyH_take (i := 0) (oi := ?oi1) (v := ?v1) ?hi1 (by kernel_rfl) (by kernel_rfl) (by kernel_rfl) ?hQ1 ?hy1 (by assumption) ?hrest1
        case hi1 => (simp only [List.getElem?_toArray, List.getElem?_cons_zero]; try rfl)
        case hQ1 => exact fun _ _ _ h => h
        case hy1 =>
          refine Or.inl ⟨by rfl, ?_⟩
          (intro wq hSw; (try dsimp only at hSw); go_simp; try with_reducible rfl)
        (try simp only [Act.put, List.setIfInBounds_toArray, List.set_cons_zero, List.set_cons_succ])
        refine wpAnyH_take (i := 1) (oi := ?oi2) (v := ?v2) ?hi2 (by kernel_rfl) (by kernel_rfl) (by kernel_rfl) ?hQ2 ?hy2 (by assumption) ?hrest2
        case hi2 => (simp only [List.getElem?_toArray, List.getElem?_cons_succ, List.getElem?_cons_zero]; try rfl)
        case hQ2 => exact fun _ _ _ h => h
        case hy2 =>
          refine Or.inl ⟨by rfl, ?_⟩
          (intro wq hSw; (try dsimp only at hSw); go_simp; try with_reducible rfl)
        (try simp only [Act.put, List.setIfInBounds_toArray, List.set_cons_zero, List.set_cons_succ])
        refine wpAnyH_take (i := 2) (oi := ?oi3) (v := ?v3) ?hi3 (by kernel_rfl) (by kernel_rfl) (by kernel_rfl) ?hQ3 ?hy3 (by assumption) ?hrest3
        case hi3 => (simp only [List.getElem?_toArray, List.getElem?_cons_succ, List.getElem?_cons_zero]; try rfl)
        case hQ3 => exact fun _ _ _ h => h
        case hy3 =>
          refine Or.inl ⟨by rfl, ?_⟩
          (intro wq hSw; (try dsimp only at hSw); go_simp; try with_reducible rfl)
        (try simp only [Act.put, List.setIfInBounds_toArray, List.set_cons_zero, List.set_cons_succ])
        refine wpAnyH_take (i := 3) (oi := ?oi4) (v := ?v4) ?hi4 (by kernel_rfl) (by kernel_rfl) (by kernel_rfl) ?hQ4 ?hy4 (by assumption) ?hrest4
        case hi4 => (simp only [List.getElem?_toArray, List.getElem?_cons_succ, List.getElem?_cons_zero]; try rfl)
        case hQ4 => exact fun _ _ _ h => h
        case hy4 =>
          refine Or.inl ⟨by rfl, ?_⟩
          (intro wq hSw; (try dsimp only at hSw); go_simp; try with_reducible rfl)
        (try simp only [Act.put, List.setIfInBounds_toArray, List.set_cons_zero, List.set_cons_succ])
        refine wpAnyH_take (i := 4) (oi := ?oi5) (v := ?v5) ?hi5 (by kernel_rfl) (by kernel_rfl) (by kernel_rfl) ?hQ5 ?hy5 (by assumption) ?hrest5
        case hi5 => (simp only [List.getElem?_toArray, List.getElem?_cons_succ, List.getElem?_cons_zero]; try rfl)
        case hQ5 => exact fun _ _ _ h => h
        case hy5 =>
          refine Or.inl ⟨by rfl, ?_⟩
          (intro wq hSw; (try dsimp only at hSw); go_simp; try with_reducible rfl)
        (try simp only [Act.put, List.setIfInBounds_toArray, List.set_cons_zero, List.set_cons_succ])
        refine wpAnyH_take (i := 5) (oi := ?oi6) (v := ?v6) ?hi6 (by kernel_rfl) (by kernel_rfl) (by kernel_rfl) ?hQ6 ?hy6 (by assumption) ?hrest6
        case hi6 => (simp only [List.getElem?_toArray, List.getElem?_cons_succ, List.getElem?_cons_zero]; try rfl)
        case hQ6 => exact fun _ _ _ h => h
        case hy6 =>
          refine Or.inl ⟨by rfl, ?_⟩
          (intro wq hSw; (try dsimp only at hSw); go_simp; try with_reducible rfl)
        (try simp only [Act.put, List.setIfInBounds_toArray, List.set_cons_zero, List.set_cons_succ])
        refine wpAnyH_take (i := 6) (oi := ?oi7) (v := ?v7) ?hi7 (by kernel_rfl) (by kernel_rfl) (by kernel_rfl) ?hQ7 ?hy7 (by assumption) ?hrest7
        case hi7 => (simp only [List.getElem?_toArray, List.getElem?_cons_succ, List.getElem?_cons_zero]; try rfl)
        case hQ7 => exact fun _ _ _ h => h
        case hy7 =>
          refine Or.inl ⟨by rfl, ?_⟩
          (intro wq hSw; (try dsimp only at hSw); go_simp; try with_reducible rfl)
        (try simp only [Act.put, List.setIfInBounds_toArray, List.set_cons_zero, List.set_cons_succ])
        refine wpAnyH_take (i := 7) (oi := ?oi8) (v := ?v8) ?hi8 (by kernel_rfl) (by kernel_rfl) (by kernel_rfl) ?hQ8 ?hy8 (by assumption) ?hrest8
        case hi8 => (simp only [List.getElem?_toArray, List.getElem?_cons_succ, List.getElem?_cons_zero]; try rfl)
        case hQ8 => exact fun _ _ _ h => h
        case hy8 =>
          refine Or.inl ⟨by rfl, ?_⟩
          (intro wq hSw; (try dsimp only at hSw); go_simp; try with_reducible rfl)
        (try simp only [Act.put, List.setIfInBounds_toArray, List.set_cons_zero, List.set_cons_succ])
        refine wpAnyH_take (i := 8) (oi := ?oi9) (v := ?v9) ?hi9 (by kernel_rfl) (by kernel_rfl) (by kernel_rfl) ?hQ9 ?hy9 (by assumption) ?hrest9
        case hi9 => (simp only [List.getElem?_toArray, List.getElem?_cons_succ, List.getElem?_cons_zero]; try rfl)
        case hQ9 => exact fun _ _ _ h => h
        case hy9 =>
          refine Or.inl ⟨by rfl, ?_⟩
          (intro wq hSw; (try dsimp only at hSw); go_simp; try with_reducible rfl)
        (try simp only [Act.put, List.setIfInBounds_toArray, List.set_cons_zero, List.set_cons_succ])
        refine wpAnyH_take (i := 9) (oi := ?oi10) (v := ?v10) ?hi10 (by kernel_rfl) (by kernel_rfl) (by kernel_rfl) ?hQ10 ?hy10 (by assumption) ?hrest10
        case hi10 => (simp only [List.getElem?_toArray, List.getElem?_cons_succ, List.getElem?_cons_zero]; try rfl)
        case hQ10 => exact fun _ _ _ h => h
        case hy10 =>
          refine Or.inl ⟨by rfl, ?_⟩
          (intro wq hSw; (try dsimp only at hSw); go_simp; try with_reducible rfl)
        (try simp only [Act.put, List.setIfInBounds_toArray, List.set_cons_zero, List.set_cons_succ])
        refine wpAnyH_take (i := 10) (oi := ?oi11) (v := ?v11) ?hi11 (by kernel_rfl) (by kernel_rfl) (by kernel_rfl) ?hQ11 ?hy11 (by assumption) ?hrest11
        case hi11 => (simp only [List.getElem?_toArray, List.getElem?_cons_succ, List.getElem?_cons_zero]; try rfl)
        case hQ11 => exact fun _ _ _ h => h
        case hy11 =>
          refine Or.inl ⟨by rfl, ?_⟩
          (intro wq hSw; (try dsimp only at hSw); go_simp; try with_reducible rfl)
        (try simp only [Act.put, List.setIfInBounds_toArray, List.set_cons_zero, List.set_cons_succ])
        refine wpAnyH_ready (rs := [11]) (by kernel_rfl) (by simp) ?_
        refine AllReadyH.cons (o := ?oi12) ?hi12 (fun K hK => ?hstep12) AllReadyH.nil
        case hi12 => (simp only [List.getElem?_toArray, List.getElem?_cons_succ, List.getElem?_cons_zero]; try rfl)
        go_simp
        (skip)
        refine hK.out _ _ ?_ (fun hHeld => ?_)
        · exact hHeld
        clear hK K
        (try simp only [Act.put, List.setIfInBounds_toArray, List.set_cons_zero, List.set_cons_succ])
        refine wpAnyH_ready (rs := [12]) (by kernel_rfl) (by simp) ?_
        refine AllReadyH.cons (o := ?oi13) ?hi13 (fun K hK => ?hstep13) AllReadyH.nil
        case hi13 => (simp only [List.getElem?_toArray, List.getElem?_cons_succ, List.getElem?_cons_zero]; try rfl)
        go_simp
        (refine (KC.out _ (hrd.below bcur)).mono ?_; rw [hg]; rintro e wx ⟨rfl, rfl⟩)
        refine hK.out _ _ ?_ (fun hHeld => ?_)
        · exact hHeld
        clear hK K
        (try dsimp only)
        refine wpAnyH_take (i := 13) (oi := ?oi14) (v := ?v14) ?hi14 (by kernel_rfl) (by kernel_rfl) (by kernel_rfl) ?hQ14 ?hy14 (by assumption) ?hrest14
        case hi14 => (simp only [List.getElem?_toArray, List.getElem?_cons_succ, List.getElem?_cons_zero]; try rfl)
        case hQ14 => exact fun _ _ _ h => h
        case hy14 =>
          refine Or.inl ⟨by rfl, ?_⟩
          (intro wq hSw; (try dsimp only at hSw); go_simp; try with_reducible rfl)
        (try simp only [Act.put, List.setIfInBounds_toArray, List.set_cons_zero, List.set_cons_succ])
        refine wpAnyH_take (i := 14) (oi := ?oi15) (v := ?v15) ?hi15 (by kernel_rfl) (by kernel_rfl) (by kernel_rfl) ?hQ15 ?hy15 (by assumption) ?hrest15
        case hi15 => (simp only [List.getElem?_toArray, List.getElem?_cons_succ, List.getElem?_cons_zero]; try rfl)
        case hQ15 => exact fun _ _ _ h => h
        case hy15 =>
          refine Or.inl ⟨by rfl, ?_⟩
          (intro wq hSw; (try dsimp only at hSw); go_simp; try with_reducible rfl)
        (try simp only [Act.put, List.setIfInBounds_toArray, List.set_cons_zero, List.set_cons_succ])
        refine wpAnyH_take (i := 15) (oi := ?oi16) (v := ?v16) ?hi16 (by kernel_rfl) (by kernel_rfl) (by kernel_rfl) ?hQ16 ?hy16 (by assumption) ?hrest16
        case hi16 => (simp only [List.getElem?_toArray, List.getElem?_cons_succ, List.getElem?_cons_zero]; try rfl)
        case hQ16 => exact fun _ _ _ h => h
        case hy16 =>
          refine Or.inl ⟨by rfl, ?_⟩
          (intro wq hSw; (try dsimp only at hSw); go_simp; try with_reducible rfl)
        (try simp only [Act.put, List.setIfInBounds_toArray, List.set_cons_zero, List.set_cons_succ])
        refine wpAnyH_take (i := 16) (oi := ?oi17) (v := ?v17) ?hi17 (by kernel_rfl) (by kernel_rfl) (by kernel_rfl) ?hQ17 ?hy17 (by assumption) ?hrest17
        case hi17 => (simp only [List.getElem?_toArray, List.getElem?_cons_succ, List.getElem?_cons_zero]; try rfl)
        case hQ17 => exact fun _ _ _ h => h
        case hy17 =>
          refine Or.inl ⟨by rfl, ?_⟩
          (intro wq hSw; (try dsimp only at hSw); go_simp; try with_reducible rfl)
        (try simp only [Act.put, List.setIfInBounds_toArray, List.set_cons_zero, List.set_cons_succ])
        refine wpAnyH_take (i := 17) (oi := ?oi18) (v := ?v18) ?hi18 (by kernel_rfl) (by kernel_rfl) (by kernel_rfl) ?hQ18 ?hy18 (by assumption) ?hrest18
        case hi18 => (simp only [List.getElem?_toArray, List.getElem?_cons_succ, List.getElem?_cons_zero]; try rfl)
        case hQ18 => exact fun _ _ _ h => h
        case hy18 =>
          refine Or.inl ⟨by rfl, ?_⟩
          (intro wq hSw; (try dsimp only at hSw); go_simp; try with_reducible rfl)
        (try simp only [Act.put, List.setIfInBounds_toArray, List.set_cons_zero, List.set_cons_succ])
        refine wpAnyH_ready (rs := [18]) (by kernel_rfl) (by simp) ?_
        refine AllReadyH.cons (o := ?oi19) ?hi19 (fun K hK => ?hstep19) AllReadyH.nil
        case hi19 => (simp only [List.getElem?_toArray, List.getElem?_cons_succ, List.getElem?_cons_zero]; try rfl)
        go_simp
        (skip)
        refine hK.out _ _ ?_ (fun hHeld => ?_)
        · exact (World.cell?_setCell_other _ _ _ _ (by intro e; injection e with e _; exact hq2 e)).trans C0
        clear hK K
        (try simp only [Act.put, List.setIfInBounds_toArray, List.set_cons_zero, List.set_cons_succ])
        refine wpAnyH_take (i := 19) (oi := ?oi20) (v := ?v20) ?hi20 (by kernel_rfl) (by kernel_rfl) (by kernel_rfl) ?hQ20 ?hy20 (by assumption) ?hrest20
        case hi20 => (simp only [List.getElem?_toArray, List.getElem?_cons_succ, List.getElem?_cons_zero]; try rfl)
        case hQ20 => exact fun _ _ _ h => h
        case hy20 =>
          refine Or.inl ⟨by rfl, ?_⟩
          (intro wq hSw; (try dsimp only at hSw); go_simp; try with_reducible rfl)
        (try simp only [Act.put, List.setIfInBounds_toArray, List.set_cons_zero, List.set_cons_succ])
        refine wpAnyH_take (i := 20) (oi := ?oi21) (v := ?v21) ?hi21 (by kernel_rfl) (by kernel_rfl) (by kernel_rfl) ?hQ21 ?hy21 (by assumption) ?hrest21
        case hi21 => (simp only [List.getElem?_toArray, List.getElem?_cons_succ, List.getElem?_cons_zero]; try rfl)
        case hQ21 => exact fun _ _ _ h => h
        case hy21 =>
          refine Or.inl ⟨by rfl, ?_⟩
          (intro wq hSw; (try dsimp only at hSw); go_simp; try with_reducible rfl)
        (try simp only [Act.put, List.setIfInBounds_toArray, List.set_cons_zero, List.set_cons_succ])
        refine wpAnyH_ready (rs := [21]) (by kernel_rfl) (by simp) ?_
        refine AllReadyH.cons (o := ?oi22) ?hi22 (fun K hK => ?hstep22) AllReadyH.nil
        case hi22 => (simp only [List.getElem?_toArray, List.getElem?_cons_succ, List.getElem?_cons_zero]; try rfl)
        go_simp
        (skip)
        refine hK.out _ _ ?_ (fun hHeld => ?_)
        · exact (World.cell?_setCell_other _ _ _ _ (by simp)).trans ((World.cell?_setCell_other _ _ _ _ (by intro e; injection e with e _; exact hq2 e)).trans C0)
        clear hK K
        (try simp only [Act.put, List.setIfInBounds_toArray, List.set_cons_zero, List.set_cons_succ])
        refine wpAnyH_take (i := 22) (oi := ?oi23) (v := ?v23) ?hi23 (by kernel_rfl) (by kernel_rfl) (by kernel_rfl) ?hQ23 ?hy23 (by assumption) ?hrest23
        case hi23 => (simp only [List.getElem?_toArray, List.getElem?_cons_succ, List.getElem?_cons_zero]; try rfl)
        case hQ23 => exact fun _ _ _ h => h
        case hy23 =>
          refine Or.inl ⟨by rfl, ?_⟩
          (intro wq hSw; (try dsimp only at hSw); go_simp; try with_reducible rfl)
        (try simp only [Act.put, List.setIfInBounds_toArray, List.set_cons_zero, List.set_cons_succ])
        refine wpAnyH_take (i := 23) (oi := ?oi24) (v := ?v24) ?hi24 (by kernel_rfl) (by kernel_rfl) (by kernel_rfl) ?hQ24 ?hy24 (by assumption) ?hrest24
        case hi24 => (simp only [List.getElem?_toArray, List.getElem?_cons_succ, List.getElem?_cons_zero]; try rfl)
        case hQ24 => exact fun _ _ _ h => h
        case hy24 =>
          refine Or.inl ⟨by rfl, ?_⟩
          (intro wq hSw; (try dsimp only at hSw); go_simp; try with_reducible rfl)
        (try simp only [Act.put, List.setIfInBounds_toArray, List.set_cons_zero, List.set_cons_succ])
        refine wpAnyH_ready (rs := [24]) (by kernel_rfl) (by simp) ?_
        refine AllReadyH.cons (o := ?oi25) ?hi25 (fun K hK => ?hstep25) AllReadyH.nil
        case hi25 => (simp only [List.getElem?_toArray, List.getElem?_cons_succ, List.getElem?_cons_zero]; try rfl)
        go_simp
        (skip)
        refine hK.out _ _ ?_ (fun hHeld => ?_)
        · exact (World.cell?_setCell_other _ _ _ _ (by simp)).trans ((World.cell?_setCell_other _ _ _ _ (by simp)).trans ((World.cell?_setCell_other _ _ _ _ (by intro e; injection e with e _; exact hq2 e)).trans C0))
        clear hK K
        (try simp only [Act.put, List.setIfInBounds_toArray, List.set_cons_zero, List.set_cons_succ])
        refine wpAnyH_done (by kernel_rfl) ?_ _
        refine NoPanic.normal ?_
        ((go_wp2_with fail); go_roundw; (case rel => exact ⟨k + 1, (p1, e1), putAt pk js[k] (.int .i64 n1), by omega, by go_num, HIN.out, hr3.out.below (Below.refl _ _).drew, hm3.out.below (Below.refl _ _).drew, ⟨by rw [len_put]; exact hpl, fun j => by rw [adr_put]; exact hpa j⟩, hG3.out.trans (Gs.of_below (Below.refl _ _).drew)⟩); (case measure => simp [RowKit.intOf]; omega))
      · have y5 : (er == 0) = false := by simp [hz]
        have he : intoS (fun l a => getR l a 8) (Value.int .i64) l pk (js.drop k) (p, er) = intoS (fun l a => getR l a 8) (Value.int .i64) l pk (js.drop (k + 1)) (p, er) := by
          rw [intoS_err _ _ _ _ _ _ hz, intoS_err _ _ _ _ _ _ hz]
        rw [he] at hin
        replace hin := hid hin
        clear he
        go_wp2_with fail
        go_roundw
        case rel => exact ⟨k + 1, (p, er), pk, by omega, by go_num, hin.out, hr, hm, ⟨hpl, hpa⟩, hG⟩
        case measure => simp [RowKit.intOf]; omega
    · obtain rfl : k = n := by omega
      rw [List.drop_of_length_le (by have := hn.out; omega), intoS] at hin
      replace hin := hid hin
      go_wp2_with fail
      refine bodyPost_end (results_none rfl _ _ _) rfl ?_
      rw [hin.out]
      exact ⟨_, rfl, hr, hm, hG⟩
end Go.Proofs.YtgkdnhbhmebmeaaDoor
