import Derived.Test.YtelmndpelgbboaaCliG
namespace Go.Proofs.Ytelmndpelgbboaa
open Go.RowKit Go.Conc Go.Cov
theorem infoM : (Try.prog.info? 34).map (fun i => (i.zero, i.size, i.bytes)) = some (some (.agg #[.int .i64 0, .int .i64 0, .int .i64 0, .int .i64 0, .int .i64 0, .int .i64 0, .int .i64 0, .int .i64 0, .int .i64 0, .int .i64 0, .slice none 0 0, .bool false, .int .i64 0, .slice none 0 0, .slice none 0 0]), 15, 168) := by kernel_rfl
theorem tick_no {w : World} {base cb : Nat} {s : Cs} (h : Cl w base cb s) (hw : s.waits = false) :
    Calls Try.prog 12 #[.pointer (some ⟨cb, 0, none⟩)] w fun e w' => e = .returned (.slice none 0 0) ∧ w' = w := by
  have c5 : w.cell? ⟨cb, 5, none⟩ = some (.bool false) := by rw [← hw]; exact (h.row.2 5 _ rfl).1
  go_enter Try.func12, Try.ntmps12
  go_wp2_with fail
  go_ret
  exact ⟨rfl, rfl⟩
/-- what a client sends to all -/
def rqs (s : Cs) (n : Nat) : List Rq := (List.range n).map fun (i : Nat) => ⟨(i : Int), s.number, s.count, s.bA, s.bc, s.body⟩
theorem rqs_len (s : Cs) (n : Nat) : (rqs s n).length = n := by simp [rqs]
theorem rqs_next (s : Cs) (n : Nat) : rqs s (n + 1) = rqs s n ++ [⟨(n : Int), s.number, s.count, s.bA, s.bc, s.body⟩] := by simp [rqs, List.range_succ]
/-- ... at a tick -/
def ticked (s : Cs) : Cs := { s with ticks := IntKind.i64.wrap (s.ticks + 1) }
def atAll (s : Cs) : List Rq := if (IntKind.i64.wrap (s.ticks + 1)).tmod s.again = 0 then rqs s (2 * s.f.toNat + 1) else []
set_option maxRecDepth 100000 in
set_option maxHeartbeats 3200000 in
theorem tick_yes {w : World} {base cb : Nat} {s : Cs} (h : Cl w base cb s) (hf : okC s.f s.number s.again s.room) (hw : s.waits = true) (hcap : s.body.length ≤ s.bc ∧ s.bc ≤ maxLen) :
    Calls Try.prog 12 #[.pointer (some ⟨cb, 0, none⟩)] w fun e w' => ∃ v, e = .returned v ∧ OwnEls rqEl w' w.heap.size 34 v (atAll s) ∧ Cl w' base cb (ticked s) ∧ Gro cb s.xc w w' := by
  obtain ⟨f1, f2, f3, f4, f5, f6, f7⟩ := hf
  have c5 : w.cell? ⟨cb, 5, none⟩ = some (.bool true) := by rw [← hw]; exact (h.row.2 5 _ rfl).1
  have c6 : w.cell? ⟨cb, 6, none⟩ = some (.int .i64 s.ticks) := (h.row.2 6 _ rfl).1
  have q6 : w.frozen? ⟨cb, 6, none⟩ = false := (h.row.2 6 _ rfl).2
  obtain ⟨t, ht⟩ : ∃ t, IntKind.i64.wrap (s.ticks + 1) = t := ⟨_, rfl⟩
  have hlt := h.lt
  have T := h.turn 6 (by decide) (.int .i64 t) (ticked s) (by simp [Cs.cells, ticked, ht]) ⟨rfl, rfl, rfl, rfl⟩ h.body
  unfold atAll
  rw [ht]
  have HT := hid ht
  generalize hys : (if t.tmod s.again = 0 then rqs s (2 * s.f.toNat + 1) else []) = ys
  have HY := hid hys
  clear hys
  go_enter Try.func12, Try.ntmps12
  go_upto_region 5 with fail
  have hC := T.1
  have hG := T.2
  clear T c5 c6 q6 ht
  generalize w.setCell ⟨cb, 6, none⟩ (.int .i64 t) = va at hC hG ⊢
  have c6 : va.cell? ⟨cb, 6, none⟩ = some (.int .i64 t) := by rw [← HT.out]; exact (hC.row.2 6 _ rfl).1
  have c3 : va.cell? ⟨cb, 3, none⟩ = some (.int .i64 s.again) := (hC.row.2 3 _ rfl).1
  have c2 : va.cell? ⟨cb, 2, none⟩ = some (.int .i64 s.f) := (hC.row.2 2 _ rfl).1
  have k6 := fun W (hW : Below va.heap.size va W) => cell_on hW c6
  have k3 := fun W (hW : Below va.heap.size va W) => cell_on hW c3
  have ja : ¬ s.again = 0 := by omega
  have hbS : Sl va (.slice s.bA s.body.length s.bc) s.body := ⟨s.bA, s.bc, rfl, hcap.1, hcap.2, hC.body.1⟩
  by_cases hz : t.tmod s.again = 0
  · have hys := HY.out
    rw [if_pos hz] at hys
    subst hys
    clear HY
    have jz : (t.tmod s.again == 0) = true := by simpa using hz
    have e4 : IntKind.i64.wrap (2 * s.f) = 2 * s.f := wrap_of _ (by omega) (by omega)
    have e5 : IntKind.i64.wrap (2 * s.f + 1) = 2 * s.f + 1 := wrap_of _ (by omega) (by omega)
    refine wp_region_noPanic ?_
    refine wp_region_held_drew (S := (fun W => Below va.heap.size va W)) (by kernel_rfl) ?_ (fun hHeld => ?_)
    · exact (Below.refl _ _).drew
    refine wpAnyH_take (i := 0) (oi := ?oi1) (v := ?v1) ?hi1 (by kernel_rfl) (by kernel_rfl) (by kernel_rfl) ?hQ1 ?hy1 (by assumption) ?hrest1
    case hi1 => (simp only [List.getElem?_toArray, List.getElem?_cons_zero]; try rfl)
    case hQ1 => exact fun _ _ _ h => h
    case hy1 =>
      refine Or.inl ⟨by rfl, ?_⟩
      (intro wq hSw; (try dsimp only at hSw); go_simp; try with_reducible rfl)
    (try simp only [Act.put, List.setIfInBounds_toArray, List.set_cons_zero, List.set_cons_succ])
    refine wpAnyH_take (i := 1) (oi := ?oi2) (v := ?v2) ?hi2 (by kernel_rfl) (by kernel_rfl) (by kernel_rfl) ?hQ2 ?hy2 (by assumption) ?hrest2
    case hi2 => (simp only [List.getElem?_toArray, List.getElem?_cons_succ, List.getElem?_cons_zero]; try rfl)
    case hQ2 => exact fun _ _ _ h => h
    case hy2 =>
      refine Or.inl ⟨by rfl, ?_⟩
      (intro wq hSw; (try dsimp only at hSw); go_simp; try with_reducible rfl)
    (try simp only [Act.put, List.setIfInBounds_toArray, List.set_cons_zero, List.set_cons_succ])
    refine wpAnyH_take (i := 2) (oi := ?oi3) (v := ?v3) ?hi3 (by kernel_rfl) (by kernel_rfl) (by kernel_rfl) ?hQ3 ?hy3 (by assumption) ?hrest3
    case hi3 => (simp only [List.getElem?_toArray, List.getElem?_cons_succ, List.getElem?_cons_zero]; try rfl)
    case hQ3 => exact fun _ _ _ h => h
    case hy3 =>
      refine Or.inl ⟨by rfl, ?_⟩
      (intro wq hSw; (try dsimp only at hSw); go_simp; try with_reducible rfl)
    (try simp only [Act.put, List.setIfInBounds_toArray, List.set_cons_zero, List.set_cons_succ])
    refine wpAnyH_take (i := 3) (oi := ?oi4) (v := ?v4) ?hi4 (by kernel_rfl) (by kernel_rfl) (by kernel_rfl) ?hQ4 ?hy4 (by assumption) ?hrest4
    case hi4 => (simp only [List.getElem?_toArray, List.getElem?_cons_succ, List.getElem?_cons_zero]; try rfl)
    case hQ4 => exact fun _ _ _ h => h
    case hy4 =>
      refine Or.inl ⟨by rfl, ?_⟩
      (intro wq hSw; (try dsimp only at hSw); go_simp; try with_reducible rfl)
    (try simp only [Act.put, List.setIfInBounds_toArray, List.set_cons_zero, List.set_cons_succ])
    refine wpAnyH_take (i := 4) (oi := ?oi5) (v := ?v5) ?hi5 (by kernel_rfl) (by kernel_rfl) (by kernel_rfl) ?hQ5 ?hy5 (by assumption) ?hrest5
    case hi5 => (simp only [List.getElem?_toArray, List.getElem?_cons_succ, List.getElem?_cons_zero]; try rfl)
    case hQ5 => exact fun _ _ _ h => h
    case hy5 =>
      refine Or.inl ⟨by rfl, ?_⟩
      (intro wq hSw; (try dsimp only at hSw); go_simp; try with_reducible rfl)
    (try simp only [Act.put, List.setIfInBounds_toArray, List.set_cons_zero, List.set_cons_succ])
    refine wpAnyH_take (i := 5) (oi := ?oi6) (v := ?v6) ?hi6 (by kernel_rfl) (by kernel_rfl) (by kernel_rfl) ?hQ6 ?hy6 (by assumption) ?hrest6
    case hi6 => (simp only [List.getElem?_toArray, List.getElem?_cons_succ, List.getElem?_cons_zero]; try rfl)
    case hQ6 => exact fun _ _ _ h => h
    case hy6 =>
      refine Or.inl ⟨by rfl, ?_⟩
      (intro wq hSw; (try dsimp only at hSw); go_simp; try with_reducible rfl)
    (try simp only [Act.put, List.setIfInBounds_toArray, List.set_cons_zero, List.set_cons_succ])
    refine wpAnyH_take (i := 6) (oi := ?oi7) (v := ?v7) ?hi7 (by kernel_rfl) (by kernel_rfl) (by kernel_rfl) ?hQ7 ?hy7 (by assumption) ?hrest7
    case hi7 => (simp only [List.getElem?_toArray, List.getElem?_cons_succ, List.getElem?_cons_zero]; try rfl)
    case hQ7 => exact fun _ _ _ h => h
    case hy7 =>
      refine Or.inl ⟨by rfl, ?_⟩
      (intro wq hSw; (try dsimp only at hSw); go_simp; try with_reducible rfl)
    (try simp only [Act.put, List.setIfInBounds_toArray, List.set_cons_zero, List.set_cons_succ])
    refine wpAnyH_take (i := 7) (oi := ?oi8) (v := ?v8) ?hi8 (by kernel_rfl) (by kernel_rfl) (by kernel_rfl) ?hQ8 ?hy8 (by assumption) ?hrest8
    case hi8 => (simp only [List.getElem?_toArray, List.getElem?_cons_succ, List.getElem?_cons_zero]; try rfl)
    case hQ8 => exact fun _ _ _ h => h
    case hy8 =>
      refine Or.inl ⟨by rfl, ?_⟩
      (intro wq hSw; (try dsimp only at hSw); go_simp; try with_reducible rfl)
    (try simp only [Act.put, List.setIfInBounds_toArray, List.set_cons_zero, List.set_cons_succ])
    refine wpAnyH_take (i := 8) (oi := ?oi9) (v := ?v9) ?hi9 (by kernel_rfl) (by kernel_rfl) (by kernel_rfl) ?hQ9 ?hy9 (by assumption) ?hrest9
    case hi9 => (simp only [List.getElem?_toArray, List.getElem?_cons_succ, List.getElem?_cons_zero]; try rfl)
    case hQ9 => exact fun _ _ _ h => h
    case hy9 =>
      refine Or.inl ⟨by rfl, ?_⟩
      (intro wq hSw; (try dsimp only at hSw); go_simp; try with_reducible rfl)
    (try simp only [Act.put, List.setIfInBounds_toArray, List.set_cons_zero, List.set_cons_succ])
    refine wpAnyH_take (i := 9) (oi := ?oi10) (v := ?v10) ?hi10 (by kernel_rfl) (by kernel_rfl) (by kernel_rfl) ?hQ10 ?hy10 (by assumption) ?hrest10
    case hi10 => (simp only [List.getElem?_toArray, List.getElem?_cons_succ, List.getElem?_cons_zero]; try rfl)
    case hQ10 => exact fun _ _ _ h => h
    case hy10 =>
      refine Or.inl ⟨by rfl, ?_⟩
      (intro wq hSw; (try dsimp only at hSw); go_simp; try with_reducible rfl)
    (try simp only [Act.put, List.setIfInBounds_toArray, List.set_cons_zero, List.set_cons_succ])
    refine wpAnyH_done (by kernel_rfl) ?_ _
    refine NoPanic.normal ?_
    have c2d : va.drew.cell? ⟨cb, 2, none⟩ = some (.int .i64 s.f) := cell_on hHeld c2
    have hC := hC.gro hHeld
    have hG := hG.trans (Gro.of_below hHeld)
    have hbS := hbS.keep (fun p u hp => cell_on hHeld hp)
    clear c2 c3 c6 k6 k3 hHeld
    generalize va.drew = vb at c2d hC hG hbS ⊢
    have hsz := hG.size
    have hF : ((2 * s.f.toNat + 1 : Nat) : Int) = 2 * s.f + 1 := by omega
    have HF := hid hF
    go_wp2_with fail
    go_loopw [3, 33] (fun v i W => ∃ n : Nat, n ≤ 2 * s.f.toNat + 1 ∧ i = .int .i64 n ∧ OwnEls rqEl W vb.heap.size 34 v (rqs s n) ∧ Below vb.heap.size vb W) (fun _ i _ => 2 * s.f.toNat + 1 - (RowKit.intOf i).toNat)
    case atStart => exact ⟨0, by omega, rfl, OwnEls.nil _ _ _ _, Below.refl _ _⟩
    case round =>
      obtain ⟨n, hn, rfl, hown, hb⟩ := hrel
      by_cases hlt2 : n < 2 * s.f.toNat + 1
      · have i1 : (n : Int) < 2 * s.f + 1 := by omega
        have KR0 := request_cl (hC.gro hb) (n : Int)
        unfold ticked at KR0
        dsimp only at KR0
        have KR := hid KR0
        clear KR0
        go_wp2_with fail
        refine KR.out.mono ?_
        rintro e w1 ⟨rfl, hb1⟩
        unfold reqV
        have hnl : (rqs s n).length = n := rqs_len s n
        have hstep : rqs s (n + 1) = rqs s n ++ [⟨(n : Int), s.number, s.count, s.bA, s.bc, s.body⟩] := rqs_next s n
        have HS := hid hstep
        have HN := hid hnl
        clear hstep hnl
        generalize rqs s n = ys at hown HS HN
        have ba := below_alloc w1 (.cells (reqL n s.number s.count (.slice s.bA s.body.length s.bc)).toArray 34)
        have Rn := Row.new w1 (reqL n s.number s.count (.slice s.bA s.body.length s.bc)) 34
        have b2 := below_step hb1 ba
        have h2 := hown.below b2
        have hoff : Off rqEl (w1.alloc (.cells (reqL n s.number s.count (.slice s.bA s.body.length s.bc)).toArray 34)) u3 [⟨(n : Int), s.number, s.count, s.bA, s.bc, s.body⟩] := Off.old (w := vb) (fun a ha p hp => by rw [List.mem_singleton.1 ha] at hp; rw [List.mem_singleton.1 hp]; exact hbS) (hb.trans (b2.mono hb.size)) (fun k hk => (hown.lt hk).1)
        have hs1 := hb.size
        have hs2 := b2.size
        go_wp2_with (at_builtin; refine wpList_app rfl (.tmp 36) (.tmp 40) 35 rfl vb.heap.size 34 Try.underlying35 infoM rfl (by decide) u3 ys.length (ys.flatMap rqEl.cells) rfl h2.1 (some ⟨w1.heap.size, 0, none⟩) 1 1 (reqL n s.number s.count (.slice s.bA s.body.length s.bc)) rfl rfl (fun j u hj => ⟨_, rfl, by rw [add_none, Nat.zero_add]; exact (Rn.2 j u hj).1⟩) (reqL_one _ _ _ rfl) (by have := HN.out; omega) (by have := HN.out; omega) (Nat.le_trans hs1 hs2) ?_; intro v5 w5 hin5 hg5 hat5)
        have hnew := OwnEls.app (ys := [⟨(n : Int), s.number, s.count, s.bA, s.bc, s.body⟩]) h2.2 hoff (by rw [List.flatMap_cons, List.flatMap_nil, List.append_nil]; exact hin5) hg5 hat5
        have hb5 : Below vb.heap.size vb w5 := (hb.trans (b2.mono hs1)).grown hg5 (Nat.le_trans hs1 hs2) (fun k hk => (hown.lt hk).1)
        go_roundw
        case rel => exact ⟨n + 1, by omega, by go_num, by rw [HS.out]; exact hnew, hb5⟩
        case measure => simp [RowKit.intOf]; omega
      · obtain rfl : n = 2 * s.f.toNat + 1 := by omega
        have i1 : ¬ ((2 * s.f.toNat + 1 : Nat) : Int) < 2 * s.f + 1 := by omega
        go_wp2_with fail
        go_ret
        exact ⟨_, rfl, hown.mono hsz, hC.gro hb, hG.trans (Gro.of_below hb)⟩
  · have hys := HY.out
    rw [if_neg hz] at hys
    subst hys
    clear HY
    have jz : (t.tmod s.again == 0) = false := by simpa using hz
    refine wp_region_noPanic ?_
    refine wp_region_held_drew (S := (fun W => Below va.heap.size va W)) (by kernel_rfl) ?_ (fun hHeld => ?_)
    · exact (Below.refl _ _).drew
    refine wpAnyH_take (i := 0) (oi := ?oi11) (v := ?v11) ?hi11 (by kernel_rfl) (by kernel_rfl) (by kernel_rfl) ?hQ11 ?hy11 (by assumption) ?hrest11
    case hi11 => (simp only [List.getElem?_toArray, List.getElem?_cons_zero]; try rfl)
    case hQ11 => exact fun _ _ _ h => h
    case hy11 =>
      refine Or.inl ⟨by rfl, ?_⟩
      (intro wq hSw; (try dsimp only at hSw); go_simp; try with_reducible rfl)
    (try simp only [Act.put, List.setIfInBounds_toArray, List.set_cons_zero, List.set_cons_succ])
    refine wpAnyH_take (i := 1) (oi := ?oi12) (v := ?v12) ?hi12 (by kernel_rfl) (by kernel_rfl) (by kernel_rfl) ?hQ12 ?hy12 (by assumption) ?hrest12
    case hi12 => (simp only [List.getElem?_toArray, List.getElem?_cons_succ, List.getElem?_cons_zero]; try rfl)
    case hQ12 => exact fun _ _ _ h => h
    case hy12 =>
      refine Or.inl ⟨by rfl, ?_⟩
      (intro wq hSw; (try dsimp only at hSw); go_simp; try with_reducible rfl)
    (try simp only [Act.put, List.setIfInBounds_toArray, List.set_cons_zero, List.set_cons_succ])
    refine wpAnyH_take (i := 2) (oi := ?oi13) (v := ?v13) ?hi13 (by kernel_rfl) (by kernel_rfl) (by kernel_rfl) ?hQ13 ?hy13 (by assumption) ?hrest13
    case hi13 => (simp only [List.getElem?_toArray, List.getElem?_cons_succ, List.getElem?_cons_zero]; try rfl)
    case hQ13 => exact fun _ _ _ h => h
    case hy13 =>
      refine Or.inl ⟨by rfl, ?_⟩
      (intro wq hSw; (try dsimp only at hSw); go_simp; try with_reducible rfl)
    (try simp only [Act.put, List.setIfInBounds_toArray, List.set_cons_zero, List.set_cons_succ])
    refine wpAnyH_take (i := 3) (oi := ?oi14) (v := ?v14) ?hi14 (by kernel_rfl) (by kernel_rfl) (by kernel_rfl) ?hQ14 ?hy14 (by assumption) ?hrest14
    case hi14 => (simp only [List.getElem?_toArray, List.getElem?_cons_succ, List.getElem?_cons_zero]; try rfl)
    case hQ14 => exact fun _ _ _ h => h
    case hy14 =>
      refine Or.inl ⟨by rfl, ?_⟩
      (intro wq hSw; (try dsimp only at hSw); go_simp; try with_reducible rfl)
    (try simp only [Act.put, List.setIfInBounds_toArray, List.set_cons_zero, List.set_cons_succ])
    refine wpAnyH_take (i := 4) (oi := ?oi15) (v := ?v15) ?hi15 (by kernel_rfl) (by kernel_rfl) (by kernel_rfl) ?hQ15 ?hy15 (by assumption) ?hrest15
    case hi15 => (simp only [List.getElem?_toArray, List.getElem?_cons_succ, List.getElem?_cons_zero]; try rfl)
    case hQ15 => exact fun _ _ _ h => h
    case hy15 =>
      refine Or.inl ⟨by rfl, ?_⟩
      (intro wq hSw; (try dsimp only at hSw); go_simp; try with_reducible rfl)
    (try simp only [Act.put, List.setIfInBounds_toArray, List.set_cons_zero, List.set_cons_succ])
    refine wpAnyH_take (i := 5) (oi := ?oi16) (v := ?v16) ?hi16 (by kernel_rfl) (by kernel_rfl) (by kernel_rfl) ?hQ16 ?hy16 (by assumption) ?hrest16
    case hi16 => (simp only [List.getElem?_toArray, List.getElem?_cons_succ, List.getElem?_cons_zero]; try rfl)
    case hQ16 => exact fun _ _ _ h => h
    case hy16 =>
      refine Or.inl ⟨by rfl, ?_⟩
      (intro wq hSw; (try dsimp only at hSw); go_simp; try with_reducible rfl)
    (try simp only [Act.put, List.setIfInBounds_toArray, List.set_cons_zero, List.set_cons_succ])
    refine wpAnyH_take (i := 6) (oi := ?oi17) (v := ?v17) ?hi17 (by kernel_rfl) (by kernel_rfl) (by kernel_rfl) ?hQ17 ?hy17 (by assumption) ?hrest17
    case hi17 => (simp only [List.getElem?_toArray, List.getElem?_cons_succ, List.getElem?_cons_zero]; try rfl)
    case hQ17 => exact fun _ _ _ h => h
    case hy17 =>
      refine Or.inl ⟨by rfl, ?_⟩
      (intro wq hSw; (try dsimp only at hSw); go_simp; try with_reducible rfl)
    (try simp only [Act.put, List.setIfInBounds_toArray, List.set_cons_zero, List.set_cons_succ])
    refine wpAnyH_take (i := 7) (oi := ?oi18) (v := ?v18) ?hi18 (by kernel_rfl) (by kernel_rfl) (by kernel_rfl) ?hQ18 ?hy18 (by assumption) ?hrest18
    case hi18 => (simp only [List.getElem?_toArray, List.getElem?_cons_succ, List.getElem?_cons_zero]; try rfl)
    case hQ18 => exact fun _ _ _ h => h
    case hy18 =>
      refine Or.inl ⟨by rfl, ?_⟩
      (intro wq hSw; (try dsimp only at hSw); go_simp; try with_reducible rfl)
    (try simp only [Act.put, List.setIfInBounds_toArray, List.set_cons_zero, List.set_cons_succ])
    refine wpAnyH_take (i := 8) (oi := ?oi19) (v := ?v19) ?hi19 (by kernel_rfl) (by kernel_rfl) (by kernel_rfl) ?hQ19 ?hy19 (by assumption) ?hrest19
    case hi19 => (simp only [List.getElem?_toArray, List.getElem?_cons_succ, List.getElem?_cons_zero]; try rfl)
    case hQ19 => exact fun _ _ _ h => h
    case hy19 =>
      refine Or.inl ⟨by rfl, ?_⟩
      (intro wq hSw; (try dsimp only at hSw); go_simp; try with_reducible rfl)
    (try simp only [Act.put, List.setIfInBounds_toArray, List.set_cons_zero, List.set_cons_succ])
    refine wpAnyH_take (i := 9) (oi := ?oi20) (v := ?v20) ?hi20 (by kernel_rfl) (by kernel_rfl) (by kernel_rfl) ?hQ20 ?hy20 (by assumption) ?hrest20
    case hi20 => (simp only [List.getElem?_toArray, List.getElem?_cons_succ, List.getElem?_cons_zero]; try rfl)
    case hQ20 => exact fun _ _ _ h => h
    case hy20 =>
      refine Or.inl ⟨by rfl, ?_⟩
      (intro wq hSw; (try dsimp only at hSw); go_simp; try with_reducible rfl)
    (try simp only [Act.put, List.setIfInBounds_toArray, List.set_cons_zero, List.set_cons_succ])
    refine wpAnyH_done (by kernel_rfl) ?_ _
    refine NoPanic.normal ?_
    go_wp2_with fail
    go_ret
    exact ⟨_, rfl, OwnEls.nil _ _ _ _, hC.gro hHeld, hG.trans (Gro.of_below hHeld)⟩
end Go.Proofs.Ytelmndpelgbboaa
