import Derived.Test.YtelmndpelgbboaaCliF
namespace Go.Proofs.Ytelmndpelgbboaa
open Go.RowKit Go.Conc Go.Cov
theorem rq_els {W : World} {g : Nat} {r : Rq} (R : Row W g (reqL r.q r.n r.c r.val)) (hs : Sl W r.val r.body) : Els rqEl W (some ⟨g, 0, none⟩) [r] := by
  refine ⟨fun j u hj => ⟨_, rfl, ?_⟩, fun a ha p hp => ?_⟩
  · rw [add_none, Nat.zero_add]
    have hj : ((rqEl.cells r) ++ [])[j]? = some u := hj
    rw [List.append_nil] at hj
    exact (R.2 j u hj).1
  · rw [List.mem_singleton.1 ha] at hp
    rw [List.mem_singleton.1 hp]; exact hs
set_option maxRecDepth 100000 in
set_option maxHeartbeats 3200000 in
theorem ask_yes {w : World} {base cb : Nat} {s : Cs} (h : Cl w base cb s) (hf : Fine s) {B : Option Addr} {d : Nat} {b : List UInt8} (hm : mayAsk s b) (hb : ∀ W, Gro cb s.xc w W → Rd W B (b.map byt)) :
    Calls Try.prog 10 #[.pointer (some ⟨cb, 0, none⟩), .slice B b.length d] w fun e w' => ∃ V k g, e = .returned (.tuple #[.slice (some ⟨g, 0, none⟩) 1 1, .bool true]) ∧ Cl w' base cb (asks s b V k) ∧ Els rqEl w' (some ⟨g, 0, none⟩) [⟨s.view % (2 * s.f + 1), s.number, s.count + 1, V, k, b⟩] ∧ w.heap.size ≤ g ∧ (∀ ad, V = some ad → w.heap.size ≤ ad.block) ∧ (b.length ≤ k ∧ k ≤ maxLen) ∧ Gro cb s.xc w w' := by
  obtain ⟨hb1, hb2, hb3, hb4⟩ := hm
  obtain ⟨⟨f1, f2, f3, f4, f5, f6, f7⟩, g1, g2, g3, g4, g5, g6⟩ := hf
  have j2 : ¬ (8192 : Int) < b.length := by omega
  have j5 : (s.count == 1099511627776) = false := by simp; omega
  have j6 : ((s.ans.length : Int) == s.room) = false := by simp; omega
  have jw : IntKind.i64.wrap (s.count + 1) = s.count + 1 := wrap_of _ (by omega) (by omega)
  have c5 : w.cell? ⟨cb, 5, none⟩ = some (.bool false) := by rw [← hb1]; exact (h.row.2 5 _ rfl).1
  have c1 : w.cell? ⟨cb, 1, none⟩ = some (.int .i64 s.count) := (h.row.2 1 _ rfl).1
  have c8 : w.cell? ⟨cb, 8, none⟩ = some (.int .i64 s.room) := (h.row.2 8 _ rfl).1
  have c9 : w.cell? ⟨cb, 9, none⟩ = some (.pointer (some ⟨s.xb, 0, none⟩)) := (h.row.2 9 _ rfl).1
  have hlt := h.lt
  go_enter Try.func10, Try.ntmps10
  go_upto_region 4 with fail
  have k8 := fun W (hW : Below w.heap.size w W) => cell_on hW c8
  have k9 := fun W (hW : Below w.heap.size w W) => cell_on hW c9
  have KL := hid (fun W (hW : Below w.heap.size w W) => len_any (h.box.below hW))
  refine wp_region_noPanic ?_
  refine wp_region_held_drew (S := (fun W => Below w.heap.size w W)) (by kernel_rfl) ?_ (fun hHeld => ?_)
  · exact (Below.refl _ _).drew
  refine wpAnyH_take (i := 0) (oi := ?oi1) (v := ?v1) ?hi1 (by kernel_rfl) (by kernel_rfl) (by kernel_rfl) ?hQ1 ?hy1 (by assumption) ?hrest1
  case hi1 => (simp only [List.getElem?_toArray, List.getElem?_cons_zero]; try rfl)
  case hQ1 => exact fun _ _ _ h => h
  case hy1 =>
    refine Or.inl ⟨by rfl, ?_⟩
    (intro wq hSw; (try dsimp only at hSw); go_simp; try with_reducible rfl)
  (try simp only [Act.put, List.setIfInBounds_toArray, List.set_cons_zero, List.set_cons_succ])
  refine wpAnyH_take (i := 1) (oi := ?oi2) (v := ?v2) ?hi2 (by kernel_rfl) (by kernel_rfl) (by kernel_rfl) ?hQ2 ?hy2 (by assumption) ?hrest2
  case hi2 => (simp only [List.getElem?_toArray, List.getElem?_cons_succ, List.getElem?_cons_zero]; try rfl)
  case hQ2 => exact fun _ _ _ h => h
  case hy2 =>
    refine Or.inl ⟨by rfl, ?_⟩
    (intro wq hSw; (try dsimp only at hSw); go_simp; try with_reducible rfl)
  (try simp only [Act.put, List.setIfInBounds_toArray, List.set_cons_zero, List.set_cons_succ])
  refine wpAnyH_take (i := 2) (oi := ?oi3) (v := ?v3) ?hi3 (by kernel_rfl) (by kernel_rfl) (by kernel_rfl) ?hQ3 ?hy3 (by assumption) ?hrest3
  case hi3 => (simp only [List.getElem?_toArray, List.getElem?_cons_succ, List.getElem?_cons_zero]; try rfl)
  case hQ3 => exact fun _ _ _ h => h
  case hy3 =>
    refine Or.inl ⟨by rfl, ?_⟩
    (intro wq hSw; (try dsimp only at hSw); go_simp; try with_reducible rfl)
  (try simp only [Act.put, List.setIfInBounds_toArray, List.set_cons_zero, List.set_cons_succ])
  refine wpAnyH_take (i := 3) (oi := ?oi4) (v := ?v4) ?hi4 (by kernel_rfl) (by kernel_rfl) (by kernel_rfl) ?hQ4 ?hy4 (by assumption) ?hrest4
  case hi4 => (simp only [List.getElem?_toArray, List.getElem?_cons_succ, List.getElem?_cons_zero]; try rfl)
  case hQ4 => exact fun _ _ _ h => h
  case hy4 =>
    refine Or.inl ⟨by rfl, ?_⟩
    (intro wq hSw; (try dsimp only at hSw); go_simp; try with_reducible rfl)
  (try simp only [Act.put, List.setIfInBounds_toArray, List.set_cons_zero, List.set_cons_succ])
  refine wpAnyH_take (i := 5) (oi := ?oi5) (v := ?v5) ?hi5 (by kernel_rfl) (by kernel_rfl) (by kernel_rfl) ?hQ5 ?hy5 (by assumption) ?hrest5
  case hi5 => (simp only [List.getElem?_toArray, List.getElem?_cons_succ, List.getElem?_cons_zero]; try rfl)
  case hQ5 => exact fun _ _ _ h => h
  case hy5 =>
    refine Or.inl ⟨by rfl, ?_⟩
    (intro wq hSw; (try dsimp only at hSw); go_simp; try with_reducible rfl)
  (try simp only [Act.put, List.setIfInBounds_toArray, List.set_cons_zero, List.set_cons_succ])
  refine wpAnyH_take (i := 6) (oi := ?oi6) (v := ?v6) ?hi6 (by kernel_rfl) (by kernel_rfl) (by kernel_rfl) ?hQ6 ?hy6 (by assumption) ?hrest6
  case hi6 => (simp only [List.getElem?_toArray, List.getElem?_cons_succ, List.getElem?_cons_zero]; try rfl)
  case hQ6 => exact fun _ _ _ h => h
  case hy6 =>
    refine Or.inl ⟨by rfl, ?_⟩
    (intro wq hSw; (try dsimp only at hSw); go_simp; try with_reducible rfl)
  (try simp only [Act.put, List.setIfInBounds_toArray, List.set_cons_zero, List.set_cons_succ])
  refine wpAnyH_take (i := 7) (oi := ?oi7) (v := ?v7) ?hi7 (by kernel_rfl) (by kernel_rfl) (by kernel_rfl) ?hQ7 ?hy7 (by assumption) ?hrest7
  case hi7 => (simp only [List.getElem?_toArray, List.getElem?_cons_succ, List.getElem?_cons_zero]; try rfl)
  case hQ7 => exact fun _ _ _ h => h
  case hy7 =>
    refine Or.inl ⟨by rfl, ?_⟩
    (intro wq hSw; (try dsimp only at hSw); go_simp; try with_reducible rfl)
  (try simp only [Act.put, List.setIfInBounds_toArray, List.set_cons_zero, List.set_cons_succ])
  refine wpAnyH_take (i := 8) (oi := ?oi8) (v := ?v8) ?hi8 (by kernel_rfl) (by kernel_rfl) (by kernel_rfl) ?hQ8 ?hy8 (by assumption) ?hrest8
  case hi8 => (simp only [List.getElem?_toArray, List.getElem?_cons_succ, List.getElem?_cons_zero]; try rfl)
  case hQ8 => exact fun _ _ _ h => h
  case hy8 =>
    refine Or.inl ⟨by rfl, ?_⟩
    (intro wq hSw; (try dsimp only at hSw); go_simp; try with_reducible rfl)
  (try simp only [Act.put, List.setIfInBounds_toArray, List.set_cons_zero, List.set_cons_succ])
  refine wpAnyH_ready (rs := [4]) (by kernel_rfl) (by simp) ?_
  refine AllReadyH.cons (o := ?oi9) ?hi9 (fun K hK => ?hstep9) AllReadyH.nil
  case hi9 => (simp only [List.getElem?_toArray, List.getElem?_cons_succ, List.getElem?_cons_zero]; try rfl)
  go_simp
  (refine (KL.out _ hHeld).mono ?_; rintro e wx ⟨rfl, rfl⟩; rw [List.length_map])
  refine hK.out _ _ hHeld (fun hHeld => ?_)
  clear hK K
  (try simp only [Act.put, List.setIfInBounds_toArray, List.set_cons_zero, List.set_cons_succ])
  refine wpAnyH_take (i := 9) (oi := ?oi10) (v := ?v10) ?hi10 (by kernel_rfl) (by kernel_rfl) (by kernel_rfl) ?hQ10 ?hy10 (by assumption) ?hrest10
  case hi10 => (simp only [List.getElem?_toArray, List.getElem?_cons_succ, List.getElem?_cons_zero]; try rfl)
  case hQ10 => exact fun _ _ _ h => h
  case hy10 =>
    refine Or.inl ⟨by rfl, ?_⟩
    (intro wq hSw; (try dsimp only at hSw); go_simp; try with_reducible rfl)
  (try simp only [Act.put, List.setIfInBounds_toArray, List.set_cons_zero, List.set_cons_succ])
  refine wpAnyH_take (i := 10) (oi := ?oi11) (v := ?v11) ?hi11 (by kernel_rfl) (by kernel_rfl) (by kernel_rfl) ?hQ11 ?hy11 (by assumption) ?hrest11
  case hi11 => (simp only [List.getElem?_toArray, List.getElem?_cons_succ, List.getElem?_cons_zero]; try rfl)
  case hQ11 => exact fun _ _ _ h => h
  case hy11 =>
    refine Or.inl ⟨by rfl, ?_⟩
    (intro wq hSw; (try dsimp only at hSw); go_simp; try with_reducible rfl)
  (try simp only [Act.put, List.setIfInBounds_toArray, List.set_cons_zero, List.set_cons_succ])
  refine wpAnyH_done (by kernel_rfl) ?_ _
  refine NoPanic.normal ?_
  go_upto_region 6 with fail
  have hC := h.gro hHeld
  have hG : Gro cb s.xc w _ := Gro.of_below hHeld
  clear k8 k9 KL c5 c1 c8 c9
  generalize w.drew = va at hC hG ⊢
  have c1 : va.cell? ⟨cb, 1, none⟩ = some (.int .i64 s.count) := (hC.row.2 1 _ rfl).1
  have q1 : va.frozen? ⟨cb, 1, none⟩ = false := (hC.row.2 1 _ rfl).2
  go_upto_region 7 with fail
  have T := hC.turn 1 (by decide) (.int .i64 (s.count + 1)) { s with count := s.count + 1 } rfl ⟨rfl, rfl, rfl, rfl⟩ hC.body
  have hG := hG.trans T.2
  have hC := T.1
  clear T c1 q1
  generalize va.setCell ⟨cb, 1, none⟩ (.int .i64 (s.count + 1)) = vb at hC hG ⊢
  have rdB := hb vb hG
  have hsb := hG.size
  have KC := hid (clone_any (c := d) rdB (by omega))
  go_wp2_with fail
  refine KC.out.mono ?_
  rintro e vc ⟨vv, rfl, own, hbx⟩
  obtain ⟨V, k, rfl, hcap1, hcap2, _⟩ := own_shape own
  have hC := hC.gro hbx
  have hG := hG.trans (Gro.of_below hbx)
  have own2 : Rd vc V (b.map byt) := own_rd own
  have ltV : ∀ ad, V = some ad → w.heap.size ≤ ad.block := fun ad hA => Nat.le_trans hsb (own_lt own (k := ad.block) (by rw [hA]; rfl)).1
  have hSl := own_sl own
  have hap : Apa cb s.xc V := fun ad hA => by have := ltV ad hA; exact ⟨by omega, by omega⟩
  have c5 : vc.cell? ⟨cb, 5, none⟩ = some (.bool s.waits) := (hC.row.2 5 _ rfl).1
  have q5 : vc.frozen? ⟨cb, 5, none⟩ = false := (hC.row.2 5 _ rfl).2
  have c4 : vc.cell? ⟨cb, 4, none⟩ = some (.slice s.bA s.body.length s.bc) := (hC.row.2 4 _ rfl).1
  have q4 : vc.frozen? ⟨cb, 4, none⟩ = false := (hC.row.2 4 _ rfl).2
  have c6 : vc.cell? ⟨cb, 6, none⟩ = some (.int .i64 s.ticks) := (hC.row.2 6 _ rfl).1
  have q6 : vc.frozen? ⟨cb, 6, none⟩ = false := (hC.row.2 6 _ rfl).2
  go_upto_region 8 with fail
  have T5 := hC.turn 5 (by decide) (.bool true) { s with count := s.count + 1, waits := true } rfl ⟨rfl, rfl, rfl, rfl⟩ hC.body
  have T4 := T5.1.turn 4 (by decide) (.slice V b.length k) { s with count := s.count + 1, waits := true, bA := V, bc := k, body := b } rfl ⟨rfl, rfl, rfl, rfl⟩ ⟨T5.2.rd own2 hap, hap⟩
  have T6 := T4.1.turn 6 (by decide) (.int .i64 0) (asks s b V k) rfl ⟨rfl, rfl, rfl, rfl⟩ T4.1.body
  have hG := ((hG.trans T5.2).trans T4.2).trans T6.2
  have hC := T6.1
  have hS6 : Sl (((vc.setCell ⟨cb, 5, none⟩ (.bool true)).setCell ⟨cb, 4, none⟩ (.slice V b.length k)).setCell ⟨cb, 6, none⟩ (.int .i64 0)) (.slice V b.length k) b := by
    obtain ⟨A0, c0, he, h1, h2, h3⟩ := hSl
    injection he with e1 e2 e3
    subst e1; subst e3
    exact ⟨V, k, rfl, h1, h2, ((T5.2.trans T4.2).trans T6.2).rd h3 hap⟩
  clear T5 T4 T6 c5 q5 c4 q4 c6 q6 hSl own own2 rdB KC
  generalize ((vc.setCell ⟨cb, 5, none⟩ (.bool true)).setCell ⟨cb, 4, none⟩ (.slice V b.length k)).setCell ⟨cb, 6, none⟩ (.int .i64 0) = vx at hC hG hS6 ⊢
  have c2 : vx.cell? ⟨cb, 2, none⟩ = some (.int .i64 s.f) := (hC.row.2 2 _ rfl).1
  have c7 : vx.cell? ⟨cb, 7, none⟩ = some (.int .i64 s.view) := (hC.row.2 7 _ rfl).1
  have k2 := fun W (hW : Below vx.heap.size vx W) => cell_on hW c2
  have k7 := fun W (hW : Below vx.heap.size vx W) => cell_on hW c7
  have KP := hid (fun W => primary_any (f := s.f) (v := s.view) f1 f2 g1 W)
  have KR := hid (fun W (hW : Below vx.heap.size vx W) => request_cl (hC.gro hW) (s.view % (2 * s.f + 1)))
  have bcur := (Below.refl vx.heap.size vx).drew
  have hsx := hG.size
  refine wp_region_noPanic ?_
  refine wp_region_held_drew (S := (fun W => Below vx.heap.size vx W)) (by kernel_rfl) ?_ (fun hHeld => ?_)
  · exact (Below.refl _ _).drew
  refine wpAnyH_take (i := 0) (oi := ?oi12) (v := ?v12) ?hi12 (by kernel_rfl) (by kernel_rfl) (by kernel_rfl) ?hQ12 ?hy12 (by assumption) ?hrest12
  case hi12 => (simp only [List.getElem?_toArray, List.getElem?_cons_zero]; try rfl)
  case hQ12 => exact fun _ _ _ h => h
  case hy12 =>
    refine Or.inl ⟨by rfl, ?_⟩
    (intro wq hSw; (try dsimp only at hSw); go_simp; try with_reducible rfl)
  (try simp only [Act.put, List.setIfInBounds_toArray, List.set_cons_zero, List.set_cons_succ])
  refine wpAnyH_take (i := 1) (oi := ?oi13) (v := ?v13) ?hi13 (by kernel_rfl) (by kernel_rfl) (by kernel_rfl) ?hQ13 ?hy13 (by assumption) ?hrest13
  case hi13 => (simp only [List.getElem?_toArray, List.getElem?_cons_succ, List.getElem?_cons_zero]; try rfl)
  case hQ13 => exact fun _ _ _ h => h
  case hy13 =>
    refine Or.inl ⟨by rfl, ?_⟩
    (intro wq hSw; (try dsimp only at hSw); go_simp; try with_reducible rfl)
  (try simp only [Act.put, List.setIfInBounds_toArray, List.set_cons_zero, List.set_cons_succ])
  refine wpAnyH_take (i := 2) (oi := ?oi14) (v := ?v14) ?hi14 (by kernel_rfl) (by kernel_rfl) (by kernel_rfl) ?hQ14 ?hy14 (by assumption) ?hrest14
  case hi14 => (simp only [List.getElem?_toArray, List.getElem?_cons_succ, List.getElem?_cons_zero]; try rfl)
  case hQ14 => exact fun _ _ _ h => h
  case hy14 =>
    refine Or.inl ⟨by rfl, ?_⟩
    (intro wq hSw; (try dsimp only at hSw); go_simp; try with_reducible rfl)
  (try simp only [Act.put, List.setIfInBounds_toArray, List.set_cons_zero, List.set_cons_succ])
  refine wpAnyH_take (i := 3) (oi := ?oi15) (v := ?v15) ?hi15 (by kernel_rfl) (by kernel_rfl) (by kernel_rfl) ?hQ15 ?hy15 (by assumption) ?hrest15
  case hi15 => (simp only [List.getElem?_toArray, List.getElem?_cons_succ, List.getElem?_cons_zero]; try rfl)
  case hQ15 => exact fun _ _ _ h => h
  case hy15 =>
    refine Or.inl ⟨by rfl, ?_⟩
    (intro wq hSw; (try dsimp only at hSw); go_simp; try with_reducible rfl)
  (try simp only [Act.put, List.setIfInBounds_toArray, List.set_cons_zero, List.set_cons_succ])
  refine wpAnyH_take (i := 4) (oi := ?oi16) (v := ?v16) ?hi16 (by kernel_rfl) (by kernel_rfl) (by kernel_rfl) ?hQ16 ?hy16 (by assumption) ?hrest16
  case hi16 => (simp only [List.getElem?_toArray, List.getElem?_cons_succ, List.getElem?_cons_zero]; try rfl)
  case hQ16 => exact fun _ _ _ h => h
  case hy16 =>
    refine Or.inl ⟨by rfl, ?_⟩
    (intro wq hSw; (try dsimp only at hSw); go_simp; try with_reducible rfl)
  (try simp only [Act.put, List.setIfInBounds_toArray, List.set_cons_zero, List.set_cons_succ])
  refine wpAnyH_take (i := 5) (oi := ?oi17) (v := ?v17) ?hi17 (by kernel_rfl) (by kernel_rfl) (by kernel_rfl) ?hQ17 ?hy17 (by assumption) ?hrest17
  case hi17 => (simp only [List.getElem?_toArray, List.getElem?_cons_succ, List.getElem?_cons_zero]; try rfl)
  case hQ17 => exact fun _ _ _ h => h
  case hy17 =>
    refine Or.inl ⟨by rfl, ?_⟩
    (intro wq hSw; (try dsimp only at hSw); go_simp; try with_reducible rfl)
  (try simp only [Act.put, List.setIfInBounds_toArray, List.set_cons_zero, List.set_cons_succ])
  refine wpAnyH_take (i := 6) (oi := ?oi18) (v := ?v18) ?hi18 (by kernel_rfl) (by kernel_rfl) (by kernel_rfl) ?hQ18 ?hy18 (by assumption) ?hrest18
  case hi18 => (simp only [List.getElem?_toArray, List.getElem?_cons_succ, List.getElem?_cons_zero]; try rfl)
  case hQ18 => exact fun _ _ _ h => h
  case hy18 =>
    refine Or.inl ⟨by rfl, ?_⟩
    (intro wq hSw; (try dsimp only at hSw); go_simp; try with_reducible rfl)
  (try simp only [Act.put, List.setIfInBounds_toArray, List.set_cons_zero, List.set_cons_succ])
  refine wpAnyH_take (i := 7) (oi := ?oi19) (v := ?v19) ?hi19 (by kernel_rfl) (by kernel_rfl) (by kernel_rfl) ?hQ19 ?hy19 (by assumption) ?hrest19
  case hi19 => (simp only [List.getElem?_toArray, List.getElem?_cons_succ, List.getElem?_cons_zero]; try rfl)
  case hQ19 => exact fun _ _ _ h => h
  case hy19 =>
    refine Or.inl ⟨by rfl, ?_⟩
    (intro wq hSw; (try dsimp only at hSw); go_simp; try with_reducible rfl)
  (try simp only [Act.put, List.setIfInBounds_toArray, List.set_cons_zero, List.set_cons_succ])
  refine wpAnyH_take (i := 8) (oi := ?oi20) (v := ?v20) ?hi20 (by kernel_rfl) (by kernel_rfl) (by kernel_rfl) ?hQ20 ?hy20 (by assumption) ?hrest20
  case hi20 => (simp only [List.getElem?_toArray, List.getElem?_cons_succ, List.getElem?_cons_zero]; try rfl)
  case hQ20 => exact fun _ _ _ h => h
  case hy20 =>
    refine Or.inl ⟨by rfl, ?_⟩
    (intro wq hSw; (try dsimp only at hSw); go_simp; try with_reducible rfl)
  (try simp only [Act.put, List.setIfInBounds_toArray, List.set_cons_zero, List.set_cons_succ])
  refine wpAnyH_ready (rs := [9]) (by kernel_rfl) (by simp) ?_
  refine AllReadyH.cons (o := ?oi21) ?hi21 (fun K hK => ?hstep21) AllReadyH.nil
  case hi21 => (simp only [List.getElem?_toArray, List.getElem?_cons_succ, List.getElem?_cons_zero]; try rfl)
  go_simp
  (refine (KP.out _).mono ?_; rintro e wx ⟨rfl, rfl⟩)
  refine hK.out _ _ hHeld (fun hHeld => ?_)
  clear hK K
  (try simp only [Act.put, List.setIfInBounds_toArray, List.set_cons_zero, List.set_cons_succ])
  refine wpAnyH_ready (rs := [10]) (by kernel_rfl) (by simp) ?_
  refine AllReadyH.cons (o := ?oi22) ?hi22 (fun K hK => ?hstep22) AllReadyH.nil
  case hi22 => (simp only [List.getElem?_toArray, List.getElem?_cons_succ, List.getElem?_cons_zero]; try rfl)
  go_simp
  (refine (KR.out _ bcur).mono ?_; rintro e wx ⟨rfl, hbx⟩; unfold reqV; have bcur := below_step bcur hbx)
  refine hK.out _ _ ?_ (fun hHeld => ?_)
  · exact below_step hHeld hbx
  clear hK K
  (try simp only [Act.put, List.setIfInBounds_toArray, List.set_cons_zero, List.set_cons_succ])
  refine wpAnyH_ready (rs := [11]) (by kernel_rfl) (by simp) ?_
  refine AllReadyH.cons (o := ?oi23) ?hi23 (fun K hK => ?hstep23) AllReadyH.nil
  case hi23 => (simp only [List.getElem?_toArray, List.getElem?_cons_succ, List.getElem?_cons_zero]; try rfl)
  go_simp
  ((first | refine newvar_Kd ?_ | refine newvar_K ?_); intro wy hbx nv nf nz; have hbc := bcur.size; have bcur := below_step bcur hbx; have R : Row wy wx.heap.size (reqL (s.view % (2 * s.f + 1)) s.number (s.count + 1) (.slice V b.length k)) := ⟨nz, fun i v hi => ⟨nv i v (by rw [← List.getElem?_toArray] at hi; exact hi), nf i⟩⟩; clear nv nf)
  refine hK.out _ _ ?_ (fun hHeld => ?_)
  · exact below_step hHeld hbx
  clear hK K
  (try simp only [Act.put, List.setIfInBounds_toArray, List.set_cons_zero, List.set_cons_succ])
  refine wpAnyH_take (i := 12) (oi := ?oi24) (v := ?v24) ?hi24 (by kernel_rfl) (by kernel_rfl) (by kernel_rfl) ?hQ24 ?hy24 (by assumption) ?hrest24
  case hi24 => (simp only [List.getElem?_toArray, List.getElem?_cons_succ, List.getElem?_cons_zero]; try rfl)
  case hQ24 => exact fun _ _ _ h => h
  case hy24 =>
    refine Or.inl ⟨by rfl, ?_⟩
    (intro wq hSw; (try dsimp only at hSw); go_simp; try with_reducible rfl)
  (try simp only [Act.put, List.setIfInBounds_toArray, List.set_cons_zero, List.set_cons_succ])
  refine wpAnyH_take (i := 13) (oi := ?oi25) (v := ?v25) ?hi25 (by kernel_rfl) (by kernel_rfl) (by kernel_rfl) ?hQ25 ?hy25 (by assumption) ?hrest25
  case hi25 => (simp only [List.getElem?_toArray, List.getElem?_cons_succ, List.getElem?_cons_zero]; try rfl)
  case hQ25 => exact fun _ _ _ h => h
  case hy25 =>
    refine Or.inl ⟨by rfl, ?_⟩
    (intro wq hSw; (try dsimp only at hSw); go_simp; try with_reducible rfl)
  (try simp only [Act.put, List.setIfInBounds_toArray, List.set_cons_zero, List.set_cons_succ])
  refine wpAnyH_done (by kernel_rfl) ?_ _
  refine NoPanic.normal ?_
  go_wp2_with fail
  go_ret2
  refine ⟨V, k, _, rfl, hC.gro hHeld, rq_els R (hS6.keep (fun p u hp => cell_on hHeld hp)), by omega, ltV, ⟨hcap1, hcap2⟩, hG.trans (Gro.of_below hHeld)⟩
end Go.Proofs.Ytelmndpelgbboaa
