import Derived.Test.YtgkdnhbhmebmeaaDoorPostA
import Derived.Test.YtgkdnhbhmebmeaaDoorPlain1
/-! post: the next text into a place -/
namespace Go.Proofs.YtgkdnhbhmebmeaaDoor
open Go.RowKit Go.Cov
theorem putAt_same {ps : List (Addr × Value)} {j : Nat} {q : Addr} {u : Value} (h : ps[j]? = some (q, u)) : putAt ps j u = ps := by
  rw [putAt_of h]
  have hl := (List.getElem?_eq_some_iff.1 h).1
  apply List.ext_getElem?
  intro i
  by_cases hij : i = j
  · subst hij; rw [List.getElem?_set_self hl, h]
  · rw [List.getElem?_set_ne (Ne.symm hij)]
set_option maxHeartbeats 6400000 in
theorem intotext_any {w : World} {b c : Nat} {A : Option Addr} {l : List UInt8} {s : Int × Int} {ps : List (Addr × Value)} {T : Option Addr} {cT j : Nat} {q : Addr} (h : Rr w b A c l s) (hM : Mem w ps) (B : Nat → Prop) (hB : B b) (hBw : ∀ k, B k → k < w.heap.size) (hP : ∀ j, j < ps.length → B (adr ps j).block ∧ (adr ps j).block ≠ b ∧ (adr ps j).spot = none)
    (hA : l ≠ [] → ∀ ad, A = some ad → ¬ B ad.block) (hT : Rd w T [Value.pointer (some q)]) (hTB : ∀ ad, T = some ad → ¬ B ad.block) (hj : ps[j]? = some (q, .slice none 0 0)) :
    Calls Tryd.prog 29 #[.pointer (some ⟨b, 0, none⟩), .func (.func 30) #[] #[], .slice T 1 cT] w fun e w' => ∃ r, e = .returned r ∧ Rr w' b A c l (nx bytesR [] l s).2 ∧ ∃ v, w'.ownsRow w.heap.size 5 1 v (nx bytesR [] l s).1.length ((nx bytesR [] l s).1.map byt) ∧ Mem w' (putAt ps j v) ∧ Gs B w w' := by
  have hjl : j < ps.length := (List.getElem?_eq_some_iff.1 hj).1
  obtain ⟨hq1, hq2, hq3⟩ := hP j hjl
  have ea := adr_of hj
  rw [ea] at hq1 hq2 hq3
  go_enter Tryd.func29, Tryd.ntmps29
  go_wp2_with fail
  go_loopw [7, 10] (fun _ i W => ∃ k : Nat, i = .int .i64 k ∧ (k = 0 ∧ W = w ∨ k = 1 ∧ (Rr W b A c l (nx bytesR [] l s).2 ∧ ∃ v, W.ownsRow w.heap.size 5 1 v (nx bytesR [] l s).1.length ((nx bytesR [] l s).1.map byt) ∧ Mem W (putAt ps j v) ∧ Gs B w W))) (fun _ i _ => 1 - (RowKit.intOf i).toNat)
  case atStart => exact ⟨0, rfl, .inl ⟨rfl, rfl⟩⟩
  case round =>
    obtain ⟨k, rfl, ⟨rfl, rfl⟩ | ⟨rfl, hfin⟩⟩ := hrel
    · obtain ⟨ad, rfl, x0⟩ := hT 0 _ rfl
      have had : ad.add 0 = ad := by simp [Addr.add]
      rw [had] at x0
      have C2 := (h.row.2 2 _ rfl).1
      obtain ⟨p, er⟩ := s
      by_cases hz : er = 0
      · subst hz
        rw [nx_ok]
        obtain ⟨n1, p1, e1, hg⟩ : ∃ n1 p1 e1, bytesR l p = (n1, p1, e1) := ⟨_, _, _, rfl⟩
        rw [hg]
        obtain ⟨Cq, Fq⟩ := hM.cell j q _ hj
        obtain ⟨qb, qo, qs⟩ := q
        dsimp only at hq1 hq2 hq3
        subst hq3
        have hne : ¬ b = qb := fun e => hq2 e.symm
        have KC := hid (fun W (hW : Rd W A (l.map byt)) => bytes_any hW h.cap h.len p)
        have C0 := (h.row.2 0 _ rfl).1
        have C1 := (h.row.2 1 _ rfl).1
        have hsz := hBw qb hq1
        have hsb := hBw b hB
        replace hM := hid hM
        replace hP := hid hP
        replace ea := hid ea
        go_upto_region 4 with fail
        clear C2
        have bcur := (Below.refl wr.heap.size wr).drew
        refine wp_region_noPanic ?_
        refine wp_region_held_drew (S := (fun W => W.cell? ⟨b, 0, none⟩ = some (.slice A l.length c))) (by kernel_rfl) ?_ (fun hHeld => ?_)
        · exact C0
        refine wpAnyH_take (i := 0) (oi := ?oi1) (v := ?v1) ?hi1 (by kernel_rfl) (by kernel_rfl) (by kernel_rfl) ?hQ1 ?hy1 (by assumption) ?hrest1
        case hi1 => (simp only [List.getElem?_toArray, List.getElem?_cons_zero]; try rfl)
        case hQ1 => exact fun _ _ _ h => h
        case hy1 =>
          refine Or.inl ⟨by rfl, ?_⟩
          (intro wq hSw; (try dsimp only at hSw); go_simp; try with_reducible rfl)
        (try simp only [Act.put, List.setIfInBounds_toArray, List.set_cons_zero, List.set_cons_succ])
        refine wpAnyH_take (i := 1) (oi := ?oi2) (v := ?v2) ?hi2 (by kernel_rfl) (by kernel_rfl) (by kernel_rfl) ?hQ2 ?hy2 (by assumption) ?hrest2
        case hi2 => (simp only [List.getElem?_toArray, List.getElem?_cons_succ, List.getElem?_cons_zero]; try rfl)
        case hQ2 => exact fun _ _ _ h => h
        case hy2 =>
          refine Or.inl ⟨by rfl, ?_⟩
          (intro wq hSw; (try dsimp only at hSw); go_simp; try with_reducible rfl)
        (try simp only [Act.put, List.setIfInBounds_toArray, List.set_cons_zero, List.set_cons_succ])
        refine wpAnyH_take (i := 2) (oi := ?oi3) (v := ?v3) ?hi3 (by kernel_rfl) (by kernel_rfl) (by kernel_rfl) ?hQ3 ?hy3 (by assumption) ?hrest3
        case hi3 => (simp only [List.getElem?_toArray, List.getElem?_cons_succ, List.getElem?_cons_zero]; try rfl)
        case hQ3 => exact fun _ _ _ h => h
        case hy3 =>
          refine Or.inl ⟨by rfl, ?_⟩
          (intro wq hSw; (try dsimp only at hSw); go_simp; try with_reducible rfl)
        (try simp only [Act.put, List.setIfInBounds_toArray, List.set_cons_zero, List.set_cons_succ])
        refine wpAnyH_take (i := 3) (oi := ?oi4) (v := ?v4) ?hi4 (by kernel_rfl) (by kernel_rfl) (by kernel_rfl) ?hQ4 ?hy4 (by assumption) ?hrest4
        case hi4 => (simp only [List.getElem?_toArray, List.getElem?_cons_succ, List.getElem?_cons_zero]; try rfl)
        case hQ4 => exact fun _ _ _ h => h
        case hy4 =>
          refine Or.inl ⟨by rfl, ?_⟩
          (intro wq hSw; (try dsimp only at hSw); go_simp; try with_reducible rfl)
        (try simp only [Act.put, List.setIfInBounds_toArray, List.set_cons_zero, List.set_cons_succ])
        refine wpAnyH_take (i := 4) (oi := ?oi5) (v := ?v5) ?hi5 (by kernel_rfl) (by kernel_rfl) (by kernel_rfl) ?hQ5 ?hy5 (by assumption) ?hrest5
        case hi5 => (simp only [List.getElem?_toArray, List.getElem?_cons_succ, List.getElem?_cons_zero]; try rfl)
        case hQ5 => exact fun _ _ _ h => h
        case hy5 =>
          refine Or.inl ⟨by rfl, ?_⟩
          (intro wq hSw; (try dsimp only at hSw); go_simp; try with_reducible rfl)
        (try simp only [Act.put, List.setIfInBounds_toArray, List.set_cons_zero, List.set_cons_succ])
        refine wpAnyH_take (i := 5) (oi := ?oi6) (v := ?v6) ?hi6 (by kernel_rfl) (by kernel_rfl) (by kernel_rfl) ?hQ6 ?hy6 (by assumption) ?hrest6
        case hi6 => (simp only [List.getElem?_toArray, List.getElem?_cons_succ, List.getElem?_cons_zero]; try rfl)
        case hQ6 => exact fun _ _ _ h => h
        case hy6 =>
          refine Or.inl ⟨by rfl, ?_⟩
          (intro wq hSw; (try dsimp only at hSw); go_simp; try with_reducible rfl)
        (try simp only [Act.put, List.setIfInBounds_toArray, List.set_cons_zero, List.set_cons_succ])
        refine wpAnyH_take (i := 6) (oi := ?oi7) (v := ?v7) ?hi7 (by kernel_rfl) (by kernel_rfl) (by kernel_rfl) ?hQ7 ?hy7 (by assumption) ?hrest7
        case hi7 => (simp only [List.getElem?_toArray, List.getElem?_cons_succ, List.getElem?_cons_zero]; try rfl)
        case hQ7 => exact fun _ _ _ h => h
        case hy7 =>
          refine Or.inl ⟨by rfl, ?_⟩
          (intro wq hSw; (try dsimp only at hSw); go_simp; try with_reducible rfl)
        (try simp only [Act.put, List.setIfInBounds_toArray, List.set_cons_zero, List.set_cons_succ])
        refine wpAnyH_take (i := 7) (oi := ?oi8) (v := ?v8) ?hi8 (by kernel_rfl) (by kernel_rfl) (by kernel_rfl) ?hQ8 ?hy8 (by assumption) ?hrest8
        case hi8 => (simp only [List.getElem?_toArray, List.getElem?_cons_succ, List.getElem?_cons_zero]; try rfl)
        case hQ8 => exact fun _ _ _ h => h
        case hy8 =>
          refine Or.inl ⟨by rfl, ?_⟩
          (intro wq hSw; (try dsimp only at hSw); go_simp; try with_reducible rfl)
        (try simp only [Act.put, List.setIfInBounds_toArray, List.set_cons_zero, List.set_cons_succ])
        refine wpAnyH_take (i := 8) (oi := ?oi9) (v := ?v9) ?hi9 (by kernel_rfl) (by kernel_rfl) (by kernel_rfl) ?hQ9 ?hy9 (by assumption) ?hrest9
        case hi9 => (simp only [List.getElem?_toArray, List.getElem?_cons_succ, List.getElem?_cons_zero]; try rfl)
        case hQ9 => exact fun _ _ _ h => h
        case hy9 =>
          refine Or.inl ⟨by rfl, ?_⟩
          (intro wq hSw; (try dsimp only at hSw); go_simp; try with_reducible rfl)
        (try simp only [Act.put, List.setIfInBounds_toArray, List.set_cons_zero, List.set_cons_succ])
        refine wpAnyH_take (i := 9) (oi := ?oi10) (v := ?v10) ?hi10 (by kernel_rfl) (by kernel_rfl) (by kernel_rfl) ?hQ10 ?hy10 (by assumption) ?hrest10
        case hi10 => (simp only [List.getElem?_toArray, List.getElem?_cons_succ, List.getElem?_cons_zero]; try rfl)
        case hQ10 => exact fun _ _ _ h => h
        case hy10 =>
          refine Or.inl ⟨by rfl, ?_⟩
          (intro wq hSw; (try dsimp only at hSw); go_simp; try with_reducible rfl)
        (try simp only [Act.put, List.setIfInBounds_toArray, List.set_cons_zero, List.set_cons_succ])
        refine wpAnyH_take (i := 10) (oi := ?oi11) (v := ?v11) ?hi11 (by kernel_rfl) (by kernel_rfl) (by kernel_rfl) ?hQ11 ?hy11 (by assumption) ?hrest11
        case hi11 => (simp only [List.getElem?_toArray, List.getElem?_cons_succ, List.getElem?_cons_zero]; try rfl)
        case hQ11 => exact fun _ _ _ h => h
        case hy11 =>
          refine Or.inl ⟨by rfl, ?_⟩
          (intro wq hSw; (try dsimp only at hSw); go_simp; try with_reducible rfl)
        (try simp only [Act.put, List.setIfInBounds_toArray, List.set_cons_zero, List.set_cons_succ])
        refine wpAnyH_ready (rs := [11]) (by kernel_rfl) (by simp) ?_
        refine AllReadyH.cons (o := ?oi12) ?hi12 (fun K hK => ?hstep12) AllReadyH.nil
        case hi12 => (simp only [List.getElem?_toArray, List.getElem?_cons_succ, List.getElem?_cons_zero]; try rfl)
        go_simp
        (skip)
        refine hK.out _ _ ?_ (fun hHeld => ?_)
        · exact hHeld
        clear hK K
        (try simp only [Act.put, List.setIfInBounds_toArray, List.set_cons_zero, List.set_cons_succ])
        refine wpAnyH_ready (rs := [12]) (by kernel_rfl) (by simp) ?_
        refine AllReadyH.cons (o := ?oi13) ?hi13 (fun K hK => ?hstep13) AllReadyH.nil
        case hi13 => (simp only [List.getElem?_toArray, List.getElem?_cons_succ, List.getElem?_cons_zero]; try rfl)
        go_simp
        (refine (KC.out _ (h.rd.below bcur)).mono ?_; rw [hg]; rintro e wx ⟨vx, rfl, ownx, hbx⟩; obtain ⟨Ax, cx, rfl, _⟩ := own_shape ownx; have bcur := below_step bcur hbx; have hx := h.below bcur; have hmx := hM.out.below bcur; have C1 := (hx.row.2 1 _ rfl).1; have F1 := (hx.row.2 1 _ rfl).2; have F2 := (hx.row.2 2 _ rfl).2; have C2 := (hx.row.2 2 _ rfl).1; have C0 := (hx.row.2 0 _ rfl).1; have Cq := cell_on bcur Cq; have Fq := froz_on bcur hsz Fq)
        refine hK.out _ _ ?_ (fun hHeld => ?_)
        · exact C0
        clear hK K
        (try dsimp only)
        refine wpAnyH_take (i := 13) (oi := ?oi14) (v := ?v14) ?hi14 (by kernel_rfl) (by kernel_rfl) (by kernel_rfl) ?hQ14 ?hy14 (by assumption) ?hrest14
        case hi14 => (simp only [List.getElem?_toArray, List.getElem?_cons_succ, List.getElem?_cons_zero]; try rfl)
        case hQ14 => exact fun _ _ _ h => h
        case hy14 =>
          refine Or.inl ⟨by rfl, ?_⟩
          (intro wq hSw; (try dsimp only at hSw); go_simp; try with_reducible rfl)
        (try simp only [Act.put, List.setIfInBounds_toArray, List.set_cons_zero, List.set_cons_succ])
        refine wpAnyH_take (i := 14) (oi := ?oi15) (v := ?v15) ?hi15 (by kernel_rfl) (by kernel_rfl) (by kernel_rfl) ?hQ15 ?hy15 (by assumption) ?hrest15
        case hi15 => (simp only [List.getElem?_toArray, List.getElem?_cons_succ, List.getElem?_cons_zero]; try rfl)
        case hQ15 => exact fun _ _ _ h => h
        case hy15 =>
          refine Or.inl ⟨by rfl, ?_⟩
          (intro wq hSw; (try dsimp only at hSw); go_simp; try with_reducible rfl)
        (try simp only [Act.put, List.setIfInBounds_toArray, List.set_cons_zero, List.set_cons_succ])
        refine wpAnyH_take (i := 15) (oi := ?oi16) (v := ?v16) ?hi16 (by kernel_rfl) (by kernel_rfl) (by kernel_rfl) ?hQ16 ?hy16 (by assumption) ?hrest16
        case hi16 => (simp only [List.getElem?_toArray, List.getElem?_cons_succ, List.getElem?_cons_zero]; try rfl)
        case hQ16 => exact fun _ _ _ h => h
        case hy16 =>
          refine Or.inl ⟨by rfl, ?_⟩
          (intro wq hSw; (try dsimp only at hSw); go_simp; try with_reducible rfl)
        (try simp only [Act.put, List.setIfInBounds_toArray, List.set_cons_zero, List.set_cons_succ])
        refine wpAnyH_take (i := 16) (oi := ?oi17) (v := ?v17) ?hi17 (by kernel_rfl) (by kernel_rfl) (by kernel_rfl) ?hQ17 ?hy17 (by assumption) ?hrest17
        case hi17 => (simp only [List.getElem?_toArray, List.getElem?_cons_succ, List.getElem?_cons_zero]; try rfl)
        case hQ17 => exact fun _ _ _ h => h
        case hy17 =>
          refine Or.inl ⟨by rfl, ?_⟩
          (intro wq hSw; (try dsimp only at hSw); go_simp; try with_reducible rfl)
        (try simp only [Act.put, List.setIfInBounds_toArray, List.set_cons_zero, List.set_cons_succ])
        refine wpAnyH_take (i := 17) (oi := ?oi18) (v := ?v18) ?hi18 (by kernel_rfl) (by kernel_rfl) (by kernel_rfl) ?hQ18 ?hy18 (by assumption) ?hrest18
        case hi18 => (simp only [List.getElem?_toArray, List.getElem?_cons_succ, List.getElem?_cons_zero]; try rfl)
        case hQ18 => exact fun _ _ _ h => h
        case hy18 =>
          refine Or.inl ⟨by rfl, ?_⟩
          (intro wq hSw; (try dsimp only at hSw); go_simp; try with_reducible rfl)
        (try simp only [Act.put, List.setIfInBounds_toArray, List.set_cons_zero, List.set_cons_succ])
        refine wpAnyH_ready (rs := [18]) (by kernel_rfl) (by simp) ?_
        refine AllReadyH.cons (o := ?oi19) ?hi19 (fun K hK => ?hstep19) AllReadyH.nil
        case hi19 => (simp only [List.getElem?_toArray, List.getElem?_cons_succ, List.getElem?_cons_zero]; try rfl)
        go_simp
        (skip)
        refine hK.out _ _ ?_ (fun hHeld => ?_)
        · exact (World.cell?_setCell_other _ _ _ _ (by intro e; injection e with e _; exact hq2 e)).trans C0
        clear hK K
        (try simp only [Act.put, List.setIfInBounds_toArray, List.set_cons_zero, List.set_cons_succ])
        refine wpAnyH_take (i := 19) (oi := ?oi20) (v := ?v20) ?hi20 (by kernel_rfl) (by kernel_rfl) (by kernel_rfl) ?hQ20 ?hy20 (by assumption) ?hrest20
        case hi20 => (simp only [List.getElem?_toArray, List.getElem?_cons_succ, List.getElem?_cons_zero]; try rfl)
        case hQ20 => exact fun _ _ _ h => h
        case hy20 =>
          refine Or.inl ⟨by rfl, ?_⟩
          (intro wq hSw; (try dsimp only at hSw); go_simp; try with_reducible rfl)
        (try simp only [Act.put, List.setIfInBounds_toArray, List.set_cons_zero, List.set_cons_succ])
        refine wpAnyH_take (i := 20) (oi := ?oi21) (v := ?v21) ?hi21 (by kernel_rfl) (by kernel_rfl) (by kernel_rfl) ?hQ21 ?hy21 (by assumption) ?hrest21
        case hi21 => (simp only [List.getElem?_toArray, List.getElem?_cons_succ, List.getElem?_cons_zero]; try rfl)
        case hQ21 => exact fun _ _ _ h => h
        case hy21 =>
          refine Or.inl ⟨by rfl, ?_⟩
          (intro wq hSw; (try dsimp only at hSw); go_simp; try with_reducible rfl)
        (try simp only [Act.put, List.setIfInBounds_toArray, List.set_cons_zero, List.set_cons_succ])
        refine wpAnyH_ready (rs := [21]) (by kernel_rfl) (by simp) ?_
        refine AllReadyH.cons (o := ?oi22) ?hi22 (fun K hK => ?hstep22) AllReadyH.nil
        case hi22 => (simp only [List.getElem?_toArray, List.getElem?_cons_succ, List.getElem?_cons_zero]; try rfl)
        go_simp
        (skip)
        refine hK.out _ _ ?_ (fun hHeld => ?_)
        · exact (World.cell?_setCell_other _ _ _ _ (by simp)).trans ((World.cell?_setCell_other _ _ _ _ (by intro e; injection e with e _; exact hq2 e)).trans C0)
        clear hK K
        (try simp only [Act.put, List.setIfInBounds_toArray, List.set_cons_zero, List.set_cons_succ])
        refine wpAnyH_take (i := 22) (oi := ?oi23) (v := ?v23) ?hi23 (by kernel_rfl) (by kernel_rfl) (by kernel_rfl) ?hQ23 ?hy23 (by assumption) ?hrest23
        case hi23 => (simp only [List.getElem?_toArray, List.getElem?_cons_succ, List.getElem?_cons_zero]; try rfl)
        case hQ23 => exact fun _ _ _ h => h
        case hy23 =>
          refine Or.inl ⟨by rfl, ?_⟩
          (intro wq hSw; (try dsimp only at hSw); go_simp; try with_reducible rfl)
        (try simp only [Act.put, List.setIfInBounds_toArray, List.set_cons_zero, List.set_cons_succ])
        refine wpAnyH_take (i := 23) (oi := ?oi24) (v := ?v24) ?hi24 (by kernel_rfl) (by kernel_rfl) (by kernel_rfl) ?hQ24 ?hy24 (by assumption) ?hrest24
        case hi24 => (simp only [List.getElem?_toArray, List.getElem?_cons_succ, List.getElem?_cons_zero]; try rfl)
        case hQ24 => exact fun _ _ _ h => h
        case hy24 =>
          refine Or.inl ⟨by rfl, ?_⟩
          (intro wq hSw; (try dsimp only at hSw); go_simp; try with_reducible rfl)
        (try simp only [Act.put, List.setIfInBounds_toArray, List.set_cons_zero, List.set_cons_succ])
        refine wpAnyH_ready (rs := [24]) (by kernel_rfl) (by simp) ?_
        refine AllReadyH.cons (o := ?oi25) ?hi25 (fun K hK => ?hstep25) AllReadyH.nil
        case hi25 => (simp only [List.getElem?_toArray, List.getElem?_cons_succ, List.getElem?_cons_zero]; try rfl)
        go_simp
        (skip)
        refine hK.out _ _ ?_ (fun hHeld => ?_)
        · exact (World.cell?_setCell_other _ _ _ _ (by simp)).trans ((World.cell?_setCell_other _ _ _ _ (by simp)).trans ((World.cell?_setCell_other _ _ _ _ (by intro e; injection e with e _; exact hq2 e)).trans C0))
        clear hK K
        (try simp only [Act.put, List.setIfInBounds_toArray, List.set_cons_zero, List.set_cons_succ])
        refine wpAnyH_done (by kernel_rfl) ?_ _
        refine NoPanic.normal ?_
        (have hpq : ∀ (i : Nat) (q : Addr) (v : Value), (putAt ps j (Value.slice Ax n1.length cx))[i]? = some (q, v) → q.block ≠ b := (fun i q v hi => by have hil : i < ps.length := (by rw [← len_put ps j (Value.slice Ax n1.length cx)]; exact (List.getElem?_eq_some_iff.1 hi).1); have := adr_of hi; rw [adr_put] at this; rw [← this]; exact (hP.out i hil).2.1); have hm1 := hmx.put hjl (.slice Ax n1.length cx); rw [ea.out] at hm1; have hr1 := hx.gro (Gro.set qb qb qo wx (.slice Ax n1.length cx)) hne (fun hl ad ha he => hA hl ad ha (he ▸ hq1)); have hr3 := (hr1.set1 p1).set2 e1; have hm3 := (hm1.gro (Gro.set b b 1 _ (.int .i64 p1)) hpq).gro (Gro.set b b 2 _ (.int .i64 e1)) hpq; have hG3 := (((Gs.of_below (B := B) bcur).trans (Gs.set (p := ⟨qb, qo, none⟩) hq1 (.slice Ax n1.length cx))).trans (Gs.set (p := ⟨b, 1, none⟩) hB (.int .i64 p1))).trans (Gs.set (p := ⟨b, 2, none⟩) hB (.int .i64 e1)); have ho0 := own_mono ownx (show wr.heap.size ≤ wr.drew.heap.size from Nat.le_refl _); have ho := (Gro.set b b 2 _ (.int .i64 e1)).own ((Gro.set b b 1 _ (.int .i64 p1)).own ((Gro.set qb qb qo wx (.slice Ax n1.length cx)).own ho0 hsz) hsb) hsb; generalize World.setCell _ _ _ = w9 at hr3 hm3 hG3 ho ⊢; (go_wp2_with fail); go_roundw; (case rel => exact ⟨1, by go_num, .inr ⟨rfl, hr3, _, ho, hm3, hG3⟩⟩); (case measure => simp [RowKit.intOf]))
      · have y5 : (er == 0) = false := by simp [hz]
        rw [nx, if_neg hz]
        replace hM := hid hM
        go_wp2_with fail
        go_roundw
        case rel => exact ⟨1, by go_num, .inr ⟨rfl, h, .slice none 0 0, World.ownsRow_nil _ _ _ _, by rw [putAt_same hj]; exact hM.out, Gs.refl _ _⟩⟩
        case measure => simp [RowKit.intOf]
    · replace hfin := hid hfin
      go_wp2_with fail
      refine bodyPost_end (results_none rfl _ _ _) rfl ?_
      exact ⟨_, rfl, hfin.out⟩
end Go.Proofs.YtgkdnhbhmebmeaaDoor
