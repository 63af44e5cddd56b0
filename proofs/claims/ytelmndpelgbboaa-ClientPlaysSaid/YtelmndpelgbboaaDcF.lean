import Derived.Test.YtelmndpelgbboaaDcE
namespace Go.Proofs.Ytelmndpelgbboaa
open Go.RowKit Go.Conc Go.Cov Go.Lib
def takesD (s : Ds) (m : Mg) (V : Option Addr) (c : Nat) (A : Option Addr) (ac : Nat) : Ds := if s.waits = true ∧ m.req = s.count then { seesD s m with waits := false, aA := A, ac := ac, ans := s.ans ++ [⟨s.count, V, c, m.body⟩] } else seesD s m
/-- what the document's Handle leaves -/
def HandD (base cb : Nat) (s : Ds) (m : Mg) (w : World) (e : Ending) (w' : World) : Prop := ∃ V c A ac, (∃ v, e = .returned v) ∧ Dl w' base cb (takesD s m V c A ac) ∧ Gro cb (s.lb cb) w w' ∧ ((takesD s m V c A ac).lb cb = s.lb cb ∨ w.heap.size ≤ (takesD s m V c A ac).lb cb) ∧ ∀ ad, V = some ad → w.heap.size ≤ ad.block
theorem newrowb_K {K : Act → World → Prop} {a : Act} {W : World} {t : TypeId} (B : Nat) (hB : B ≤ W.heap.size)
    (h : ∀ wx, Below W.heap.size W wx → wx.ownsRow B t 1 (.slice (some ⟨W.heap.size, 0, none⟩) 0 0) 0 [] → K a wx) : K a (W.alloc (.cells #[] t)) :=
  h _ (below_alloc _ _) (own_mono (World.ownsRow_made W #[] 0 (Nat.le_refl _) (by simp [maxLen]) rfl) hB)
theorem newrowb_Kd {K : Act → World → Prop} {a : Act} {W : World} {t : TypeId} (B : Nat) (hB : B ≤ W.heap.size)
    (h : ∀ wx, Below W.drew.heap.size W.drew wx → wx.ownsRow B t 1 (.slice (some ⟨W.heap.size, 0, none⟩) 0 0) 0 [] → K a wx) : K a (W.alloc (.cells #[] t)).drew :=
  h (W.drew.alloc (.cells #[] t)) (below_alloc W.drew _) (own_mono (World.ownsRow_made W.drew #[] 0 (Nat.le_refl _) (by simp [maxLen]) rfl) hB)
theorem dl_ne {w : World} {base db : Nat} {s : Ds} (h : Dl w base db s) : some db ≠ s.L.ownBlock := fun e => by
  cases ha : s.aA with
  | none => unfold Ds.L at e; rw [ha] at e; cases e
  | some ad => exact h.ne ad ha (by unfold Ds.L at e; rw [ha] at e; exact (Option.some.inj e).symm)
/-- .. where the list's block may have been made anew on the way -/
theorem gro_more {b c c' n : Nat} {w1 w2 w3 : World} (h : Gro b c' w2 w3) (hc : c' = c ∨ c' = n) (hn : w1.heap.size ≤ n) (g : Gro b c w1 w2) : Gro b c w1 w3 :=
  ⟨h.os.trans g.os, h.tape.trans g.tape, h.output.trans g.output, Nat.le_trans g.size h.size, fun k hk h1 h2 => (h.block k (Nat.lt_of_lt_of_le hk g.size) h1 (by rcases hc with e | e <;> omega)).trans (g.block k hk h1 h2)⟩
theorem rdtwo {w : World} {b : Nat} {x y : Value} (h0 : w.cell? ⟨b, 0, none⟩ = some x) (h1 : w.cell? ⟨b, 1, none⟩ = some y) : Rd w (some ⟨b, 0, none⟩) [x, y] := by
  intro j u hj
  refine ⟨_, rfl, ?_⟩
  rw [add_none]
  rcases j with _ | _ | j
  · cases hj; exact h0
  · cases hj; exact h1
  · simp at hj
set_option maxRecDepth 100000 in
set_option maxHeartbeats 3200000 in
theorem handle_mine_d {w : World} {base cb : Nat} {s : Ds} (h : Dl w base cb s) (m : Mg) (hm : mineD s m) (hroom : s.ans.length ≤ 1024) (hb : ∀ W, Gro cb (s.lb cb) w W → Rd W m.A (m.body.map byt)) (hbl : m.body.length ≤ 1000000) :
    Calls Try.prog 18 #[.pointer (some ⟨cb, 0, none⟩), m.agg] w fun e w' => HandD base cb s m w e w' := by
  obtain ⟨j1, j2, j3, j4⟩ := hm
  have b1 : (m.kind != 2) = false := by simpa using j1
  have b2 : (m.client != s.number) = false := by simpa using j2
  have j3 : ¬ m.view < 0 := by omega
  have j4 : ¬ 1073741824 < m.view := by omega
  have ba := below_alloc w (.cells m.cells.toArray 34)
  have R := Row.new w m.cells 34
  have hG : Gro cb (s.lb cb) w _ := Gro.of_below ba
  have hC := h.gro ba
  have hlt := h.lt
  clear j1 j2
  unfold Mg.agg
  unfold Mg.cells at ba R hG hC
  go_enter Try.func18, Try.ntmps18
  go_upto_region 1 with fail
  have c0 := (hC.row.2 1 _ rfl).1
  have m0 := (R.2 0 _ rfl).1
  have m3 := (R.2 3 _ rfl).1
  have m8 := (R.2 8 _ rfl).1
  have n8 : w.heap.size < (w.alloc (.cells #[.int .i64 m.kind, .int .i64 m.frm, .int .i64 m.tto, .int .i64 m.view, .int .i64 m.num, .int .i64 m.commit, .int .i64 m.nonce, .int .i64 m.normal, .int .i64 m.client, .int .i64 m.req, .slice m.A m.body.length m.c, .bool m.has, .int .i64 m.start, .slice m.eA m.en m.ec, .slice m.kA m.kn m.kc] 34)).heap.size := by simp
  generalize w.alloc _ = va at ba R hG hC c0 m0 m3 m8 n8 ⊢
  have k0 := fun W (hW : Below va.heap.size va W) => cell_on hW c0
  have q0 := fun W (hW : Below va.heap.size va W) => cell_on hW m0
  have q3 := fun W (hW : Below va.heap.size va W) => cell_on hW m3
  have q8 := fun W (hW : Below va.heap.size va W) => cell_on hW m8
  refine wp_region_noPanic ?_
  refine wp_region_held_drew (S := (fun W => Below va.heap.size va W)) (by kernel_rfl) ?_ (fun hHeld => ?_)
  · exact (Below.refl _ _).drew
  refine wpAnyH_take (i := 0) (oi := ?oi1) (v := ?v1) ?hi1 (by kernel_rfl) (by kernel_rfl) (by kernel_rfl) ?hQ1 ?hy1 (by assumption) ?hrest1
  case hi1 => (simp only [List.getElem?_toArray, List.getElem?_cons_zero]; try rfl)
  case hQ1 => exact fun _ _ _ h => h
  case hy1 =>
    refine Or.inl ⟨by rfl, ?_⟩
    (intro wq hSw; (try dsimp only at hSw); go_simp; try with_reducible rfl)
  (try simp only [Act.put, List.setIfInBounds_toArray, List.set_cons_zero, List.set_cons_succ])
  refine wpAnyH_take (i := 1) (oi := ?oi2) (v := ?v2) ?hi2 (by kernel_rfl) (by kernel_rfl) (by kernel_rfl) ?hQ2 ?hy2 (by assumption) ?hrest2
  case hi2 => (simp only [List.getElem?_toArray, List.getElem?_cons_succ, List.getElem?_cons_zero]; try rfl)
  case hQ2 => exact fun _ _ _ h => h
  case hy2 =>
    refine Or.inl ⟨by rfl, ?_⟩
    (intro wq hSw; (try dsimp only at hSw); go_simp; try with_reducible rfl)
  (try simp only [Act.put, List.setIfInBounds_toArray, List.set_cons_zero, List.set_cons_succ])
  refine wpAnyH_take (i := 2) (oi := ?oi3) (v := ?v3) ?hi3 (by kernel_rfl) (by kernel_rfl) (by kernel_rfl) ?hQ3 ?hy3 (by assumption) ?hrest3
  case hi3 => (simp only [List.getElem?_toArray, List.getElem?_cons_succ, List.getElem?_cons_zero]; try rfl)
  case hQ3 => exact fun _ _ _ h => h
  case hy3 =>
    refine Or.inl ⟨by rfl, ?_⟩
    (intro wq hSw; (try dsimp only at hSw); go_simp; try with_reducible rfl)
  (try simp only [Act.put, List.setIfInBounds_toArray, List.set_cons_zero, List.set_cons_succ])
  refine wpAnyH_take (i := 3) (oi := ?oi4) (v := ?v4) ?hi4 (by kernel_rfl) (by kernel_rfl) (by kernel_rfl) ?hQ4 ?hy4 (by assumption) ?hrest4
  case hi4 => (simp only [List.getElem?_toArray, List.getElem?_cons_succ, List.getElem?_cons_zero]; try rfl)
  case hQ4 => exact fun _ _ _ h => h
  case hy4 =>
    refine Or.inl ⟨by rfl, ?_⟩
    (intro wq hSw; (try dsimp only at hSw); go_simp; try with_reducible rfl)
  (try simp only [Act.put, List.setIfInBounds_toArray, List.set_cons_zero, List.set_cons_succ])
  refine wpAnyH_take (i := 4) (oi := ?oi5) (v := ?v5) ?hi5 (by kernel_rfl) (by kernel_rfl) (by kernel_rfl) ?hQ5 ?hy5 (by assumption) ?hrest5
  case hi5 => (simp only [List.getElem?_toArray, List.getElem?_cons_succ, List.getElem?_cons_zero]; try rfl)
  case hQ5 => exact fun _ _ _ h => h
  case hy5 =>
    refine Or.inl ⟨by rfl, ?_⟩
    (intro wq hSw; (try dsimp only at hSw); go_simp; try with_reducible rfl)
  (try simp only [Act.put, List.setIfInBounds_toArray, List.set_cons_zero, List.set_cons_succ])
  refine wpAnyH_take (i := 5) (oi := ?oi6) (v := ?v6) ?hi6 (by kernel_rfl) (by kernel_rfl) (by kernel_rfl) ?hQ6 ?hy6 (by assumption) ?hrest6
  case hi6 => (simp only [List.getElem?_toArray, List.getElem?_cons_succ, List.getElem?_cons_zero]; try rfl)
  case hQ6 => exact fun _ _ _ h => h
  case hy6 =>
    refine Or.inl ⟨by rfl, ?_⟩
    (intro wq hSw; (try dsimp only at hSw); go_simp; try with_reducible rfl)
  (try simp only [Act.put, List.setIfInBounds_toArray, List.set_cons_zero, List.set_cons_succ])
  refine wpAnyH_take (i := 6) (oi := ?oi7) (v := ?v7) ?hi7 (by kernel_rfl) (by kernel_rfl) (by kernel_rfl) ?hQ7 ?hy7 (by assumption) ?hrest7
  case hi7 => (simp only [List.getElem?_toArray, List.getElem?_cons_succ, List.getElem?_cons_zero]; try rfl)
  case hQ7 => exact fun _ _ _ h => h
  case hy7 =>
    refine Or.inl ⟨by rfl, ?_⟩
    (intro wq hSw; (try dsimp only at hSw); go_simp; try with_reducible rfl)
  (try simp only [Act.put, List.setIfInBounds_toArray, List.set_cons_zero, List.set_cons_succ])
  refine wpAnyH_take (i := 7) (oi := ?oi8) (v := ?v8) ?hi8 (by kernel_rfl) (by kernel_rfl) (by kernel_rfl) ?hQ8 ?hy8 (by assumption) ?hrest8
  case hi8 => (simp only [List.getElem?_toArray, List.getElem?_cons_succ, List.getElem?_cons_zero]; try rfl)
  case hQ8 => exact fun _ _ _ h => h
  case hy8 =>
    refine Or.inl ⟨by rfl, ?_⟩
    (intro wq hSw; (try dsimp only at hSw); go_simp; try with_reducible rfl)
  (try simp only [Act.put, List.setIfInBounds_toArray, List.set_cons_zero, List.set_cons_succ])
  refine wpAnyH_take (i := 8) (oi := ?oi9) (v := ?v9) ?hi9 (by kernel_rfl) (by kernel_rfl) (by kernel_rfl) ?hQ9 ?hy9 (by assumption) ?hrest9
  case hi9 => (simp only [List.getElem?_toArray, List.getElem?_cons_succ, List.getElem?_cons_zero]; try rfl)
  case hQ9 => exact fun _ _ _ h => h
  case hy9 =>
    refine Or.inl ⟨by rfl, ?_⟩
    (intro wq hSw; (try dsimp only at hSw); go_simp; try with_reducible rfl)
  (try simp only [Act.put, List.setIfInBounds_toArray, List.set_cons_zero, List.set_cons_succ])
  refine wpAnyH_take (i := 9) (oi := ?oi10) (v := ?v10) ?hi10 (by kernel_rfl) (by kernel_rfl) (by kernel_rfl) ?hQ10 ?hy10 (by assumption) ?hrest10
  case hi10 => (simp only [List.getElem?_toArray, List.getElem?_cons_succ, List.getElem?_cons_zero]; try rfl)
  case hQ10 => exact fun _ _ _ h => h
  case hy10 =>
    refine Or.inl ⟨by rfl, ?_⟩
    (intro wq hSw; (try dsimp only at hSw); go_simp; try with_reducible rfl)
  (try simp only [Act.put, List.setIfInBounds_toArray, List.set_cons_zero, List.set_cons_succ])
  refine wpAnyH_take (i := 10) (oi := ?oi11) (v := ?v11) ?hi11 (by kernel_rfl) (by kernel_rfl) (by kernel_rfl) ?hQ11 ?hy11 (by assumption) ?hrest11
  case hi11 => (simp only [List.getElem?_toArray, List.getElem?_cons_succ, List.getElem?_cons_zero]; try rfl)
  case hQ11 => exact fun _ _ _ h => h
  case hy11 =>
    refine Or.inl ⟨by rfl, ?_⟩
    (intro wq hSw; (try dsimp only at hSw); go_simp; try with_reducible rfl)
  (try simp only [Act.put, List.setIfInBounds_toArray, List.set_cons_zero, List.set_cons_succ])
  refine wpAnyH_take (i := 11) (oi := ?oi12) (v := ?v12) ?hi12 (by kernel_rfl) (by kernel_rfl) (by kernel_rfl) ?hQ12 ?hy12 (by assumption) ?hrest12
  case hi12 => (simp only [List.getElem?_toArray, List.getElem?_cons_succ, List.getElem?_cons_zero]; try rfl)
  case hQ12 => exact fun _ _ _ h => h
  case hy12 =>
    refine Or.inl ⟨by rfl, ?_⟩
    (intro wq hSw; (try dsimp only at hSw); go_simp; try with_reducible rfl)
  (try simp only [Act.put, List.setIfInBounds_toArray, List.set_cons_zero, List.set_cons_succ])
  refine wpAnyH_take (i := 12) (oi := ?oi13) (v := ?v13) ?hi13 (by kernel_rfl) (by kernel_rfl) (by kernel_rfl) ?hQ13 ?hy13 (by assumption) ?hrest13
  case hi13 => (simp only [List.getElem?_toArray, List.getElem?_cons_succ, List.getElem?_cons_zero]; try rfl)
  case hQ13 => exact fun _ _ _ h => h
  case hy13 =>
    refine Or.inl ⟨by rfl, ?_⟩
    (intro wq hSw; (try dsimp only at hSw); go_simp; try with_reducible rfl)
  (try simp only [Act.put, List.setIfInBounds_toArray, List.set_cons_zero, List.set_cons_succ])
  refine wpAnyH_take (i := 13) (oi := ?oi14) (v := ?v14) ?hi14 (by kernel_rfl) (by kernel_rfl) (by kernel_rfl) ?hQ14 ?hy14 (by assumption) ?hrest14
  case hi14 => (simp only [List.getElem?_toArray, List.getElem?_cons_succ, List.getElem?_cons_zero]; try rfl)
  case hQ14 => exact fun _ _ _ h => h
  case hy14 =>
    refine Or.inl ⟨by rfl, ?_⟩
    (intro wq hSw; (try dsimp only at hSw); go_simp; try with_reducible rfl)
  (try simp only [Act.put, List.setIfInBounds_toArray, List.set_cons_zero, List.set_cons_succ])
  refine wpAnyH_take (i := 14) (oi := ?oi15) (v := ?v15) ?hi15 (by kernel_rfl) (by kernel_rfl) (by kernel_rfl) ?hQ15 ?hy15 (by assumption) ?hrest15
  case hi15 => (simp only [List.getElem?_toArray, List.getElem?_cons_succ, List.getElem?_cons_zero]; try rfl)
  case hQ15 => exact fun _ _ _ h => h
  case hy15 =>
    refine Or.inl ⟨by rfl, ?_⟩
    (intro wq hSw; (try dsimp only at hSw); go_simp; try with_reducible rfl)
  (try simp only [Act.put, List.setIfInBounds_toArray, List.set_cons_zero, List.set_cons_succ])
  refine wpAnyH_take (i := 15) (oi := ?oi16) (v := ?v16) ?hi16 (by kernel_rfl) (by kernel_rfl) (by kernel_rfl) ?hQ16 ?hy16 (by assumption) ?hrest16
  case hi16 => (simp only [List.getElem?_toArray, List.getElem?_cons_succ, List.getElem?_cons_zero]; try rfl)
  case hQ16 => exact fun _ _ _ h => h
  case hy16 =>
    refine Or.inl ⟨by rfl, ?_⟩
    (intro wq hSw; (try dsimp only at hSw); go_simp; try with_reducible rfl)
  (try simp only [Act.put, List.setIfInBounds_toArray, List.set_cons_zero, List.set_cons_succ])
  refine wpAnyH_take (i := 16) (oi := ?oi17) (v := ?v17) ?hi17 (by kernel_rfl) (by kernel_rfl) (by kernel_rfl) ?hQ17 ?hy17 (by assumption) ?hrest17
  case hi17 => (simp only [List.getElem?_toArray, List.getElem?_cons_succ, List.getElem?_cons_zero]; try rfl)
  case hQ17 => exact fun _ _ _ h => h
  case hy17 =>
    refine Or.inl ⟨by rfl, ?_⟩
    (intro wq hSw; (try dsimp only at hSw); go_simp; try with_reducible rfl)
  (try simp only [Act.put, List.setIfInBounds_toArray, List.set_cons_zero, List.set_cons_succ])
  refine wpAnyH_take (i := 17) (oi := ?oi18) (v := ?v18) ?hi18 (by kernel_rfl) (by kernel_rfl) (by kernel_rfl) ?hQ18 ?hy18 (by assumption) ?hrest18
  case hi18 => (simp only [List.getElem?_toArray, List.getElem?_cons_succ, List.getElem?_cons_zero]; try rfl)
  case hQ18 => exact fun _ _ _ h => h
  case hy18 =>
    refine Or.inl ⟨by rfl, ?_⟩
    (intro wq hSw; (try dsimp only at hSw); go_simp; try with_reducible rfl)
  (try simp only [Act.put, List.setIfInBounds_toArray, List.set_cons_zero, List.set_cons_succ])
  refine wpAnyH_take (i := 18) (oi := ?oi19) (v := ?v19) ?hi19 (by kernel_rfl) (by kernel_rfl) (by kernel_rfl) ?hQ19 ?hy19 (by assumption) ?hrest19
  case hi19 => (simp only [List.getElem?_toArray, List.getElem?_cons_succ, List.getElem?_cons_zero]; try rfl)
  case hQ19 => exact fun _ _ _ h => h
  case hy19 =>
    refine Or.inl ⟨by rfl, ?_⟩
    (intro wq hSw; (try dsimp only at hSw); go_simp; try with_reducible rfl)
  (try simp only [Act.put, List.setIfInBounds_toArray, List.set_cons_zero, List.set_cons_succ])
  refine wpAnyH_take (i := 19) (oi := ?oi20) (v := ?v20) ?hi20 (by kernel_rfl) (by kernel_rfl) (by kernel_rfl) ?hQ20 ?hy20 (by assumption) ?hrest20
  case hi20 => (simp only [List.getElem?_toArray, List.getElem?_cons_succ, List.getElem?_cons_zero]; try rfl)
  case hQ20 => exact fun _ _ _ h => h
  case hy20 =>
    refine Or.inl ⟨by rfl, ?_⟩
    (intro wq hSw; (try dsimp only at hSw); go_simp; try with_reducible rfl)
  (try simp only [Act.put, List.setIfInBounds_toArray, List.set_cons_zero, List.set_cons_succ])
  refine wpAnyH_take (i := 20) (oi := ?oi21) (v := ?v21) ?hi21 (by kernel_rfl) (by kernel_rfl) (by kernel_rfl) ?hQ21 ?hy21 (by assumption) ?hrest21
  case hi21 => (simp only [List.getElem?_toArray, List.getElem?_cons_succ, List.getElem?_cons_zero]; try rfl)
  case hQ21 => exact fun _ _ _ h => h
  case hy21 =>
    refine Or.inl ⟨by rfl, ?_⟩
    (intro wq hSw; (try dsimp only at hSw); go_simp; try with_reducible rfl)
  (try simp only [Act.put, List.setIfInBounds_toArray, List.set_cons_zero, List.set_cons_succ])
  refine wpAnyH_take (i := 21) (oi := ?oi22) (v := ?v22) ?hi22 (by kernel_rfl) (by kernel_rfl) (by kernel_rfl) ?hQ22 ?hy22 (by assumption) ?hrest22
  case hi22 => (simp only [List.getElem?_toArray, List.getElem?_cons_succ, List.getElem?_cons_zero]; try rfl)
  case hQ22 => exact fun _ _ _ h => h
  case hy22 =>
    refine Or.inl ⟨by rfl, ?_⟩
    (intro wq hSw; (try dsimp only at hSw); go_simp; try with_reducible rfl)
  (try simp only [Act.put, List.setIfInBounds_toArray, List.set_cons_zero, List.set_cons_succ])
  refine wpAnyH_done (by kernel_rfl) ?_ _
  refine NoPanic.normal ?_
  go_upto_region 2 with fail
  clear k0 q0 q3 q8 c0 m0 m8 b1 b2 j3 j4
  have hC := hC.gro hHeld
  have R := R.below hHeld
  have hG := hG.trans (Gro.of_below hHeld)
  have n8 := Nat.lt_of_lt_of_le n8 hHeld.size
  have m3 := cell_on hHeld m3
  clear ba hHeld
  generalize va.drew = vb at hC R hG n8 m3 ⊢
  have c8 : vb.cell? ⟨cb, 8, none⟩ = some (.int .i64 s.view) := (hC.row.2 8 _ rfl).1
  have f8 : vb.frozen? ⟨cb, 8, none⟩ = false := (hC.row.2 8 _ rfl).2
  have Q3 := fun (W : World) (hW : W.cell? ⟨w.heap.size, 3, none⟩ = some (.int .i64 m.view)) => hW
  obtain ⟨mv, hmv⟩ : ∃ mv, (if s.view < m.view then m.view else s.view) = mv := ⟨_, rfl⟩
  have hmv2 : (if m.view < s.view then s.view else m.view) = mv := by rw [← hmv]; split <;> split <;> omega
  have HMV := hid hmv
  refine wp_region_noPanic ?_
  refine wp_region_held_drew (S := (fun W => W.cell? ⟨w.heap.size, 3, none⟩ = some (.int .i64 m.view))) (by kernel_rfl) ?_ (fun hHeld => ?_)
  · exact m3
  refine wpAnyH_take (i := 0) (oi := ?oi23) (v := ?v23) ?hi23 (by kernel_rfl) (by kernel_rfl) (by kernel_rfl) ?hQ23 ?hy23 (by assumption) ?hrest23
  case hi23 => (simp only [List.getElem?_toArray, List.getElem?_cons_zero]; try rfl)
  case hQ23 => exact fun _ _ _ h => h
  case hy23 =>
    refine Or.inl ⟨by rfl, ?_⟩
    (intro wq hSw; (try dsimp only at hSw); go_simp; try with_reducible rfl)
  (try simp only [Act.put, List.setIfInBounds_toArray, List.set_cons_zero, List.set_cons_succ])
  refine wpAnyH_take (i := 1) (oi := ?oi24) (v := ?v24) ?hi24 (by kernel_rfl) (by kernel_rfl) (by kernel_rfl) ?hQ24 ?hy24 (by assumption) ?hrest24
  case hi24 => (simp only [List.getElem?_toArray, List.getElem?_cons_succ, List.getElem?_cons_zero]; try rfl)
  case hQ24 => exact fun _ _ _ h => h
  case hy24 =>
    refine Or.inl ⟨by rfl, ?_⟩
    (intro wq hSw; (try dsimp only at hSw); go_simp; try with_reducible rfl)
  (try simp only [Act.put, List.setIfInBounds_toArray, List.set_cons_zero, List.set_cons_succ])
  refine wpAnyH_take (i := 2) (oi := ?oi25) (v := ?v25) ?hi25 (by kernel_rfl) (by kernel_rfl) (by kernel_rfl) ?hQ25 ?hy25 (by assumption) ?hrest25
  case hi25 => (simp only [List.getElem?_toArray, List.getElem?_cons_succ, List.getElem?_cons_zero]; try rfl)
  case hQ25 => exact fun _ _ _ h => h
  case hy25 =>
    refine Or.inl ⟨by rfl, ?_⟩
    (intro wq hSw; (try dsimp only at hSw); go_simp; try with_reducible rfl)
  (try simp only [Act.put, List.setIfInBounds_toArray, List.set_cons_zero, List.set_cons_succ])
  refine wpAnyH_take (i := 3) (oi := ?oi26) (v := ?v26) ?hi26 (by kernel_rfl) (by kernel_rfl) (by kernel_rfl) ?hQ26 ?hy26 (by assumption) ?hrest26
  case hi26 => (simp only [List.getElem?_toArray, List.getElem?_cons_succ, List.getElem?_cons_zero]; try rfl)
  case hQ26 => exact fun _ _ _ h => h
  case hy26 =>
    refine Or.inl ⟨by rfl, ?_⟩
    (intro wq hSw; (try dsimp only at hSw); go_simp; try with_reducible rfl)
  (try simp only [Act.put, List.setIfInBounds_toArray, List.set_cons_zero, List.set_cons_succ])
  refine wpAnyH_take (i := 5) (oi := ?oi27) (v := ?v27) ?hi27 (by kernel_rfl) (by kernel_rfl) (by kernel_rfl) ?hQ27 ?hy27 (by assumption) ?hrest27
  case hi27 => (simp only [List.getElem?_toArray, List.getElem?_cons_succ, List.getElem?_cons_zero]; try rfl)
  case hQ27 => exact fun _ _ _ h => h
  case hy27 =>
    refine Or.inl ⟨by rfl, ?_⟩
    (intro wq hSw; (try dsimp only at hSw); go_simp; try with_reducible rfl)
  (try simp only [Act.put, List.setIfInBounds_toArray, List.set_cons_zero, List.set_cons_succ])
  refine wpAnyH_take (i := 6) (oi := ?oi28) (v := ?v28) ?hi28 (by kernel_rfl) (by kernel_rfl) (by kernel_rfl) ?hQ28 ?hy28 (by assumption) ?hrest28
  case hi28 => (simp only [List.getElem?_toArray, List.getElem?_cons_succ, List.getElem?_cons_zero]; try rfl)
  case hQ28 => exact fun _ _ _ h => h
  case hy28 =>
    refine Or.inl ⟨by rfl, ?_⟩
    (intro wq hSw; (try dsimp only at hSw); go_simp; try with_reducible rfl)
  (try simp only [Act.put, List.setIfInBounds_toArray, List.set_cons_zero, List.set_cons_succ])
  refine wpAnyH_ready (rs := [4]) (by kernel_rfl) (by simp) ?_
  refine AllReadyH.cons (o := ?oi29) ?hi29 (fun K hK => ?hstep29) AllReadyH.nil
  case hi29 => (simp only [List.getElem?_toArray, List.getElem?_cons_succ, List.getElem?_cons_zero]; try rfl)
  go_simp
  (skip)
  refine hK.out _ _ ?_ (fun hHeld => ?_)
  · exact hHeld
  clear hK K
  (try simp only [Act.put, List.setIfInBounds_toArray, List.set_cons_zero, List.set_cons_succ])
  refine wpAnyH_take (i := 7) (oi := ?oi30) (v := ?v30) ?hi30 (by kernel_rfl) (by kernel_rfl) (by kernel_rfl) ?hQ30 ?hy30 (by assumption) ?hrest30
  case hi30 => (simp only [List.getElem?_toArray, List.getElem?_cons_succ, List.getElem?_cons_zero]; try rfl)
  case hQ30 => exact fun _ _ _ h => h
  case hy30 =>
    refine Or.inl ⟨by rfl, ?_⟩
    (intro wq hSw; (try dsimp only at hSw); go_simp; try with_reducible rfl)
  (try simp only [Act.put, List.setIfInBounds_toArray, List.set_cons_zero, List.set_cons_succ])
  refine wpAnyH_take (i := 8) (oi := ?oi31) (v := ?v31) ?hi31 (by kernel_rfl) (by kernel_rfl) (by kernel_rfl) ?hQ31 ?hy31 (by assumption) ?hrest31
  case hi31 => (simp only [List.getElem?_toArray, List.getElem?_cons_succ, List.getElem?_cons_zero]; try rfl)
  case hQ31 => exact fun _ _ _ h => h
  case hy31 =>
    refine Or.inl ⟨by rfl, ?_⟩
    (intro wq hSw; (try dsimp only at hSw); go_simp; try with_reducible rfl)
  (try simp only [Act.put, List.setIfInBounds_toArray, List.set_cons_zero, List.set_cons_succ])
  refine wpAnyH_take (i := 9) (oi := ?oi32) (v := ?v32) ?hi32 (by kernel_rfl) (by kernel_rfl) (by kernel_rfl) ?hQ32 ?hy32 (by assumption) ?hrest32
  case hi32 => (simp only [List.getElem?_toArray, List.getElem?_cons_succ, List.getElem?_cons_zero]; try rfl)
  case hQ32 => exact fun _ _ _ h => h
  case hy32 =>
    refine Or.inl ⟨by rfl, ?_⟩
    (intro wq hSw; (try dsimp only at hSw); go_simp; try with_reducible rfl)
  (try simp only [Act.put, List.setIfInBounds_toArray, List.set_cons_zero, List.set_cons_succ])
  refine wpAnyH_ready (rs := [10]) (by kernel_rfl) (by simp) ?_
  refine AllReadyH.cons (o := ?oi33) ?hi33 (fun K hK => ?hstep33) AllReadyH.nil
  case hi33 => (simp only [List.getElem?_toArray, List.getElem?_cons_succ, List.getElem?_cons_zero]; try rfl)
  go_simp
  (have T := hC.turn 8 (by decide) (.int .i64 mv) (seesD s m) (by simp [Ds.cells, Ds.L, seesD, HMV.out]) ⟨rfl, rfl, rfl⟩ hC.body; have hd := (Below.refl (vb.setCell ⟨cb, 8, none⟩ (.int .i64 mv)).heap.size (vb.setCell ⟨cb, 8, none⟩ (.int .i64 mv))).drew; have hG := hG.trans (Gro.trans T.2 (Gro.of_below hd)); have R := (R.keep (T.2.block w.heap.size n8 (by omega) (by omega)) T.2.size).below hd; have n8 := Nat.lt_of_lt_of_le (Nat.lt_of_lt_of_le n8 T.2.size) hd.size; have hC := T.1.gro hd; clear T hd; generalize (vb.setCell ⟨cb, 8, none⟩ (.int .i64 mv)).drew = vc at hC hG R n8 ⊢; have m3 := (R.2 3 _ rfl).1)
  refine hK.out _ _ ?_ (fun hHeld => ?_)
  · exact m3
  clear hK K
  (try simp only [Act.put, List.setIfInBounds_toArray, List.set_cons_zero, List.set_cons_succ])
  refine wpAnyH_done (by kernel_rfl) ?_ _
  refine NoPanic.normal ?_
  go_upto_region 3 with fail
  have c4 : vc.cell? ⟨cb, 4, none⟩ = some (.int .i64 s.count) := (hC.row.2 4 _ rfl).1
  have c5 : vc.cell? ⟨cb, 5, none⟩ = some (.bool s.waits) := (hC.row.2 5 _ rfl).1
  have m9 : vc.cell? ⟨w.heap.size, 9, none⟩ = some (.int .i64 m.req) := (R.2 9 _ rfl).1
  clear Q3 hHeld c8 f8
  have k4 := fun W (hW : Below vc.heap.size vc W) => cell_on hW c4
  have k5 := fun W (hW : Below vc.heap.size vc W) => cell_on hW c5
  have q9 := fun W (hW : Below vc.heap.size vc W) => cell_on hW m9
  have hlb : (seesD s m).lb cb = s.lb cb := rfl
  by_cases hw : s.waits = true
  · rw [hw] at k5
    by_cases hc : m.req = s.count
    ·
      refine wp_region_noPanic ?_
      refine wp_region_held_drew (S := (fun W => Below vc.heap.size vc W)) (by kernel_rfl) ?_ (fun hHeld => ?_)
      · exact (Below.refl _ _).drew
      refine wpAnyH_take (i := 0) (oi := ?oi34) (v := ?v34) ?hi34 (by kernel_rfl) (by kernel_rfl) (by kernel_rfl) ?hQ34 ?hy34 (by assumption) ?hrest34
      case hi34 => (simp only [List.getElem?_toArray, List.getElem?_cons_zero]; try rfl)
      case hQ34 => exact fun _ _ _ h => h
      case hy34 =>
        refine Or.inl ⟨by rfl, ?_⟩
        (intro wq hSw; (try dsimp only at hSw); go_simp; try with_reducible rfl)
      (try simp only [Act.put, List.setIfInBounds_toArray, List.set_cons_zero, List.set_cons_succ])
      refine wpAnyH_take (i := 1) (oi := ?oi35) (v := ?v35) ?hi35 (by kernel_rfl) (by kernel_rfl) (by kernel_rfl) ?hQ35 ?hy35 (by assumption) ?hrest35
      case hi35 => (simp only [List.getElem?_toArray, List.getElem?_cons_succ, List.getElem?_cons_zero]; try rfl)
      case hQ35 => exact fun _ _ _ h => h
      case hy35 =>
        refine Or.inl ⟨by rfl, ?_⟩
        (intro wq hSw; (try dsimp only at hSw); go_simp; try with_reducible rfl)
      (try simp only [Act.put, List.setIfInBounds_toArray, List.set_cons_zero, List.set_cons_succ])
      refine wpAnyH_take (i := 2) (oi := ?oi36) (v := ?v36) ?hi36 (by kernel_rfl) (by kernel_rfl) (by kernel_rfl) ?hQ36 ?hy36 (by assumption) ?hrest36
      case hi36 => (simp only [List.getElem?_toArray, List.getElem?_cons_succ, List.getElem?_cons_zero]; try rfl)
      case hQ36 => exact fun _ _ _ h => h
      case hy36 =>
        refine Or.inl ⟨by rfl, ?_⟩
        (intro wq hSw; (try dsimp only at hSw); go_simp; try with_reducible rfl)
      (try simp only [Act.put, List.setIfInBounds_toArray, List.set_cons_zero, List.set_cons_succ])
      refine wpAnyH_take (i := 3) (oi := ?oi37) (v := ?v37) ?hi37 (by kernel_rfl) (by kernel_rfl) (by kernel_rfl) ?hQ37 ?hy37 (by assumption) ?hrest37
      case hi37 => (simp only [List.getElem?_toArray, List.getElem?_cons_succ, List.getElem?_cons_zero]; try rfl)
      case hQ37 => exact fun _ _ _ h => h
      case hy37 =>
        refine Or.inl ⟨by rfl, ?_⟩
        (intro wq hSw; (try dsimp only at hSw); go_simp; try with_reducible rfl)
      (try simp only [Act.put, List.setIfInBounds_toArray, List.set_cons_zero, List.set_cons_succ])
      refine wpAnyH_take (i := 4) (oi := ?oi38) (v := ?v38) ?hi38 (by kernel_rfl) (by kernel_rfl) (by kernel_rfl) ?hQ38 ?hy38 (by assumption) ?hrest38
      case hi38 => (simp only [List.getElem?_toArray, List.getElem?_cons_succ, List.getElem?_cons_zero]; try rfl)
      case hQ38 => exact fun _ _ _ h => h
      case hy38 =>
        refine Or.inl ⟨by rfl, ?_⟩
        (intro wq hSw; (try dsimp only at hSw); go_simp; try with_reducible rfl)
      (try simp only [Act.put, List.setIfInBounds_toArray, List.set_cons_zero, List.set_cons_succ])
      refine wpAnyH_take (i := 5) (oi := ?oi39) (v := ?v39) ?hi39 (by kernel_rfl) (by kernel_rfl) (by kernel_rfl) ?hQ39 ?hy39 (by assumption) ?hrest39
      case hi39 => (simp only [List.getElem?_toArray, List.getElem?_cons_succ, List.getElem?_cons_zero]; try rfl)
      case hQ39 => exact fun _ _ _ h => h
      case hy39 =>
        refine Or.inl ⟨by rfl, ?_⟩
        (intro wq hSw; (try dsimp only at hSw); go_simp; try with_reducible rfl)
      (try simp only [Act.put, List.setIfInBounds_toArray, List.set_cons_zero, List.set_cons_succ])
      refine wpAnyH_take (i := 6) (oi := ?oi40) (v := ?v40) ?hi40 (by kernel_rfl) (by kernel_rfl) (by kernel_rfl) ?hQ40 ?hy40 (by assumption) ?hrest40
      case hi40 => (simp only [List.getElem?_toArray, List.getElem?_cons_succ, List.getElem?_cons_zero]; try rfl)
      case hQ40 => exact fun _ _ _ h => h
      case hy40 =>
        refine Or.inl ⟨by rfl, ?_⟩
        (intro wq hSw; (try dsimp only at hSw); go_simp; try with_reducible rfl)
      (try simp only [Act.put, List.setIfInBounds_toArray, List.set_cons_zero, List.set_cons_succ])
      refine wpAnyH_take (i := 7) (oi := ?oi41) (v := ?v41) ?hi41 (by kernel_rfl) (by kernel_rfl) (by kernel_rfl) ?hQ41 ?hy41 (by assumption) ?hrest41
      case hi41 => (simp only [List.getElem?_toArray, List.getElem?_cons_succ, List.getElem?_cons_zero]; try rfl)
      case hQ41 => exact fun _ _ _ h => h
      case hy41 =>
        refine Or.inl ⟨by rfl, ?_⟩
        (intro wq hSw; (try dsimp only at hSw); go_simp; try with_reducible rfl)
      (try simp only [Act.put, List.setIfInBounds_toArray, List.set_cons_zero, List.set_cons_succ])
      refine wpAnyH_take (i := 8) (oi := ?oi42) (v := ?v42) ?hi42 (by kernel_rfl) (by kernel_rfl) (by kernel_rfl) ?hQ42 ?hy42 (by assumption) ?hrest42
      case hi42 => (simp only [List.getElem?_toArray, List.getElem?_cons_succ, List.getElem?_cons_zero]; try rfl)
      case hQ42 => exact fun _ _ _ h => h
      case hy42 =>
        refine Or.inl ⟨by rfl, ?_⟩
        (intro wq hSw; (try dsimp only at hSw); go_simp; try with_reducible rfl)
      (try simp only [Act.put, List.setIfInBounds_toArray, List.set_cons_zero, List.set_cons_succ])
      refine wpAnyH_take (i := 9) (oi := ?oi43) (v := ?v43) ?hi43 (by kernel_rfl) (by kernel_rfl) (by kernel_rfl) ?hQ43 ?hy43 (by assumption) ?hrest43
      case hi43 => (simp only [List.getElem?_toArray, List.getElem?_cons_succ, List.getElem?_cons_zero]; try rfl)
      case hQ43 => exact fun _ _ _ h => h
      case hy43 =>
        refine Or.inl ⟨by rfl, ?_⟩
        (intro wq hSw; (try dsimp only at hSw); go_simp; try with_reducible rfl)
      (try simp only [Act.put, List.setIfInBounds_toArray, List.set_cons_zero, List.set_cons_succ])
      refine wpAnyH_take (i := 10) (oi := ?oi44) (v := ?v44) ?hi44 (by kernel_rfl) (by kernel_rfl) (by kernel_rfl) ?hQ44 ?hy44 (by assumption) ?hrest44
      case hi44 => (simp only [List.getElem?_toArray, List.getElem?_cons_succ, List.getElem?_cons_zero]; try rfl)
      case hQ44 => exact fun _ _ _ h => h
      case hy44 =>
        refine Or.inl ⟨by rfl, ?_⟩
        (intro wq hSw; (try dsimp only at hSw); go_simp; try with_reducible rfl)
      (try simp only [Act.put, List.setIfInBounds_toArray, List.set_cons_zero, List.set_cons_succ])
      refine wpAnyH_take (i := 11) (oi := ?oi45) (v := ?v45) ?hi45 (by kernel_rfl) (by kernel_rfl) (by kernel_rfl) ?hQ45 ?hy45 (by assumption) ?hrest45
      case hi45 => (simp only [List.getElem?_toArray, List.getElem?_cons_succ, List.getElem?_cons_zero]; try rfl)
      case hQ45 => exact fun _ _ _ h => h
      case hy45 =>
        refine Or.inl ⟨by rfl, ?_⟩
        (intro wq hSw; (try dsimp only at hSw); go_simp; try with_reducible rfl)
      (try simp only [Act.put, List.setIfInBounds_toArray, List.set_cons_zero, List.set_cons_succ])
      refine wpAnyH_take (i := 12) (oi := ?oi46) (v := ?v46) ?hi46 (by kernel_rfl) (by kernel_rfl) (by kernel_rfl) ?hQ46 ?hy46 (by assumption) ?hrest46
      case hi46 => (simp only [List.getElem?_toArray, List.getElem?_cons_succ, List.getElem?_cons_zero]; try rfl)
      case hQ46 => exact fun _ _ _ h => h
      case hy46 =>
        refine Or.inl ⟨by rfl, ?_⟩
        (intro wq hSw; (try dsimp only at hSw); go_simp; try with_reducible rfl)
      (try simp only [Act.put, List.setIfInBounds_toArray, List.set_cons_zero, List.set_cons_succ])
      refine wpAnyH_done (by kernel_rfl) ?_ _
      refine NoPanic.normal ?_
      go_upto_region 4 with fail
      have hC := hC.gro hHeld
      have R := R.below hHeld
      have hG := hG.trans (Gro.of_below hHeld)
      have n8 := Nat.lt_of_lt_of_le n8 hHeld.size
      have c4 : vc.drew.cell? ⟨cb, 4, none⟩ = some (.int .i64 s.count) := (hC.row.2 4 _ rfl).1
      have c9v : vc.drew.cell? ⟨cb, 9, none⟩ = some (.slice s.aA s.ans.length s.ac) := (hC.row.2 9 _ rfl).1
      have m10 : vc.drew.cell? ⟨w.heap.size, 10, none⟩ = some (.slice m.A m.body.length m.c) := (R.2 10 _ rfl).1
      clear k4 k5 q9 c5 hHeld
      generalize vc.drew = vd at hC R hG n8 c4 c9v m10 ⊢
      have rdB := hb vd hG
      have bcur := (Below.refl vd.heap.size vd).drew
      have S4 := fun (W : World) (hW : W.cell? ⟨cb, 4, none⟩ = some (.int .i64 s.count) ∧ W.cell? ⟨w.heap.size, 10, none⟩ = some (.slice m.A m.body.length m.c)) => hW.1
      have Sm := fun (W : World) (hW : W.cell? ⟨cb, 4, none⟩ = some (.int .i64 s.count) ∧ W.cell? ⟨w.heap.size, 10, none⟩ = some (.slice m.A m.body.length m.c)) => hW.2
      have hgs := hG.size
      have hne9 : some cb ≠ (Value.slice s.aA s.ans.length s.ac).ownBlock := dl_ne (s := seesD s m) hC
      have c9 : vd.drew.cell? ⟨cb, 9, none⟩ = some (.slice s.aA s.ans.length s.ac) := c9v
      refine wp_region_noPanic ?_
      refine wp_region_held_drew (S := (fun W => W.cell? ⟨cb, 4, none⟩ = some (.int .i64 s.count) ∧ W.cell? ⟨w.heap.size, 10, none⟩ = some (.slice m.A m.body.length m.c))) (by kernel_rfl) ?_ (fun hHeld => ?_)
      · exact ⟨c4, m10⟩
      refine wpAnyH_take (i := 0) (oi := ?oi47) (v := ?v47) ?hi47 (by kernel_rfl) (by kernel_rfl) (by kernel_rfl) ?hQ47 ?hy47 (by assumption) ?hrest47
      case hi47 => (simp only [List.getElem?_toArray, List.getElem?_cons_zero]; try rfl)
      case hQ47 => exact fun _ _ _ h => h
      case hy47 =>
        refine Or.inl ⟨by rfl, ?_⟩
        (intro wq hSw; (try dsimp only at hSw); go_simp; try with_reducible rfl)
      (try simp only [Act.put, List.setIfInBounds_toArray, List.set_cons_zero, List.set_cons_succ])
      refine wpAnyH_take (i := 1) (oi := ?oi48) (v := ?v48) ?hi48 (by kernel_rfl) (by kernel_rfl) (by kernel_rfl) ?hQ48 ?hy48 (by assumption) ?hrest48
      case hi48 => (simp only [List.getElem?_toArray, List.getElem?_cons_succ, List.getElem?_cons_zero]; try rfl)
      case hQ48 => exact fun _ _ _ h => h
      case hy48 =>
        refine Or.inl ⟨by rfl, ?_⟩
        (intro wq hSw; (try dsimp only at hSw); go_simp; try with_reducible rfl)
      (try simp only [Act.put, List.setIfInBounds_toArray, List.set_cons_zero, List.set_cons_succ])
      refine wpAnyH_take (i := 2) (oi := ?oi49) (v := ?v49) ?hi49 (by kernel_rfl) (by kernel_rfl) (by kernel_rfl) ?hQ49 ?hy49 (by assumption) ?hrest49
      case hi49 => (simp only [List.getElem?_toArray, List.getElem?_cons_succ, List.getElem?_cons_zero]; try rfl)
      case hQ49 => exact fun _ _ _ h => h
      case hy49 =>
        refine Or.inl ⟨by rfl, ?_⟩
        (intro wq hSw; (try dsimp only at hSw); go_simp; try with_reducible rfl)
      (try simp only [Act.put, List.setIfInBounds_toArray, List.set_cons_zero, List.set_cons_succ])
      refine wpAnyH_take (i := 3) (oi := ?oi50) (v := ?v50) ?hi50 (by kernel_rfl) (by kernel_rfl) (by kernel_rfl) ?hQ50 ?hy50 (by assumption) ?hrest50
      case hi50 => (simp only [List.getElem?_toArray, List.getElem?_cons_succ, List.getElem?_cons_zero]; try rfl)
      case hQ50 => exact fun _ _ _ h => h
      case hy50 =>
        refine Or.inl ⟨by rfl, ?_⟩
        (intro wq hSw; (try dsimp only at hSw); go_simp; try with_reducible rfl)
      (try simp only [Act.put, List.setIfInBounds_toArray, List.set_cons_zero, List.set_cons_succ])
      refine wpAnyH_take (i := 5) (oi := ?oi51) (v := ?v51) ?hi51 (by kernel_rfl) (by kernel_rfl) (by kernel_rfl) ?hQ51 ?hy51 (by assumption) ?hrest51
      case hi51 => (simp only [List.getElem?_toArray, List.getElem?_cons_succ, List.getElem?_cons_zero]; try rfl)
      case hQ51 => exact fun _ _ _ h => h
      case hy51 =>
        refine Or.inl ⟨by rfl, ?_⟩
        (intro wq hSw; (try dsimp only at hSw); go_simp; try with_reducible rfl)
      (try simp only [Act.put, List.setIfInBounds_toArray, List.set_cons_zero, List.set_cons_succ])
      refine wpAnyH_take (i := 6) (oi := ?oi52) (v := ?v52) ?hi52 (by kernel_rfl) (by kernel_rfl) (by kernel_rfl) ?hQ52 ?hy52 (by assumption) ?hrest52
      case hi52 => (simp only [List.getElem?_toArray, List.getElem?_cons_succ, List.getElem?_cons_zero]; try rfl)
      case hQ52 => exact fun _ _ _ h => h
      case hy52 =>
        refine Or.inl ⟨by rfl, ?_⟩
        (intro wq hSw; (try dsimp only at hSw); go_simp; try with_reducible rfl)
      (try simp only [Act.put, List.setIfInBounds_toArray, List.set_cons_zero, List.set_cons_succ])
      refine wpAnyH_take (i := 7) (oi := ?oi53) (v := ?v53) ?hi53 (by kernel_rfl) (by kernel_rfl) (by kernel_rfl) ?hQ53 ?hy53 (by assumption) ?hrest53
      case hi53 => (simp only [List.getElem?_toArray, List.getElem?_cons_succ, List.getElem?_cons_zero]; try rfl)
      case hQ53 => exact fun _ _ _ h => h
      case hy53 =>
        refine Or.inl ⟨by rfl, ?_⟩
        (intro wq hSw; (try dsimp only at hSw); go_simp; try with_reducible rfl)
      (try simp only [Act.put, List.setIfInBounds_toArray, List.set_cons_zero, List.set_cons_succ])
      refine wpAnyH_take (i := 8) (oi := ?oi54) (v := ?v54) ?hi54 (by kernel_rfl) (by kernel_rfl) (by kernel_rfl) ?hQ54 ?hy54 (by assumption) ?hrest54
      case hi54 => (simp only [List.getElem?_toArray, List.getElem?_cons_succ, List.getElem?_cons_zero]; try rfl)
      case hQ54 => exact fun _ _ _ h => h
      case hy54 =>
        refine Or.inl ⟨by rfl, ?_⟩
        (intro wq hSw; (try dsimp only at hSw); go_simp; try with_reducible rfl)
      (try simp only [Act.put, List.setIfInBounds_toArray, List.set_cons_zero, List.set_cons_succ])
      refine wpAnyH_take (i := 10) (oi := ?oi55) (v := ?v55) ?hi55 (by kernel_rfl) (by kernel_rfl) (by kernel_rfl) ?hQ55 ?hy55 (by assumption) ?hrest55
      case hi55 => (simp only [List.getElem?_toArray, List.getElem?_cons_succ, List.getElem?_cons_zero]; try rfl)
      case hQ55 => exact fun _ _ _ h => h
      case hy55 =>
        refine Or.inl ⟨by rfl, ?_⟩
        (intro wq hSw; (try dsimp only at hSw); go_simp; try with_reducible rfl)
      (try simp only [Act.put, List.setIfInBounds_toArray, List.set_cons_zero, List.set_cons_succ])
      refine wpAnyH_take (i := 11) (oi := ?oi56) (v := ?v56) ?hi56 (by kernel_rfl) (by kernel_rfl) (by kernel_rfl) ?hQ56 ?hy56 (by assumption) ?hrest56
      case hi56 => (simp only [List.getElem?_toArray, List.getElem?_cons_succ, List.getElem?_cons_zero]; try rfl)
      case hQ56 => exact fun _ _ _ h => h
      case hy56 =>
        refine Or.inl ⟨by rfl, ?_⟩
        (intro wq hSw; (try dsimp only at hSw); go_simp; try with_reducible rfl)
      (try simp only [Act.put, List.setIfInBounds_toArray, List.set_cons_zero, List.set_cons_succ])
      refine wpAnyH_ready (rs := [4, 9]) (by kernel_rfl) (by simp) ?_
      refine AllReadyH.cons (o := ?oi57) ?hi57 (fun K hK => ?hstep57) ?hmore57
      case hi57 => (simp only [List.getElem?_toArray, List.getElem?_cons_succ, List.getElem?_cons_zero]; try rfl)
      case hstep57 =>
        go_simp
        (skip)
        refine hK.out _ _ ?_ (fun hHeld => ?_)
        · exact hHeld
        clear hK K
        (try simp only [Act.put, List.setIfInBounds_toArray, List.set_cons_zero, List.set_cons_succ])
        refine wpAnyH_ready (rs := [9]) (by kernel_rfl) (by simp) ?_
        refine AllReadyH.cons (o := ?oi58) ?hi58 (fun K hK => ?hstep58) AllReadyH.nil
        case hi58 => (simp only [List.getElem?_toArray, List.getElem?_cons_succ, List.getElem?_cons_zero]; try rfl)
        go_simp
        (have hs0 := bcur.size; (first | refine newrowb_Kd vd.heap.size hs0 ?_ | refine newrowb_Kd vd.heap.size (Nat.le_refl _) ?_ | refine newrowb_K vd.heap.size hs0 ?_); intro wx hbx own9; have bcur := below_step bcur hbx; have c9 := cell_on bcur c9v)
        refine hK.out _ _ ?_ (fun hHeld => ?_)
        · exact ⟨cell_on hbx hHeld.1, cell_on hbx hHeld.2⟩
        clear hK K
        (try simp only [Act.put, List.setIfInBounds_toArray, List.set_cons_zero, List.set_cons_succ])
        refine wpAnyH_ready (rs := [12]) (by kernel_rfl) (by simp) ?_
        refine AllReadyH.cons (o := ?oi59) ?hi59 (fun K hK => ?hstep59) AllReadyH.nil
        case hi59 => (simp only [List.getElem?_toArray, List.getElem?_cons_succ, List.getElem?_cons_zero]; try rfl)
        (refine oper_app2 rfl (.tmp 58) (.tmp 60) 29 rfl vd.heap.size 5 Try.underlying29 infoBd rfl (by decide) _ 0 [] rfl own9 m.A m.body.length m.c (m.body.map byt) rfl (by simp) (rdB.below bcur) (byt_one _) (by omega) (by omega) bcur.size ?_; intro v12 w12 own12 hg12 hat12; rw [Nat.zero_add, List.nil_append] at own12; obtain ⟨V, k, hV12, _⟩ := own_shape own12; subst hV12; have bcur := bcur.grown hg12 bcur.size (fun kk hk => (own_lt own9 hk).1); have c9 := cell_on bcur c9v)
        refine hK.out _ _ ?_ (fun hHeld => ?_)
        · exact ⟨cell_on bcur c4, cell_on bcur m10⟩
        clear hK K
        (try simp only [Act.put, List.setIfInBounds_toArray, List.set_cons_zero, List.set_cons_succ])
        refine wpAnyH_take (i := 13) (oi := ?oi60) (v := ?v60) ?hi60 (by kernel_rfl) (by kernel_rfl) (by kernel_rfl) ?hQ60 ?hy60 (by assumption) ?hrest60
        case hi60 => (simp only [List.getElem?_toArray, List.getElem?_cons_succ, List.getElem?_cons_zero]; try rfl)
        case hQ60 => exact fun _ _ _ h => h
        case hy60 =>
          refine Or.inl ⟨by rfl, ?_⟩
          (intro wq hSw; (try dsimp only at hSw); go_simp; try with_reducible rfl)
        (try simp only [Act.put, List.setIfInBounds_toArray, List.set_cons_zero, List.set_cons_succ])
        refine wpAnyH_ready (rs := [14]) (by kernel_rfl) (by simp) ?_
        refine AllReadyH.cons (o := ?oi61) ?hi61 (fun K hK => ?hstep61) AllReadyH.nil
        case hi61 => (simp only [List.getElem?_toArray, List.getElem?_cons_succ, List.getElem?_cons_zero]; try rfl)
        go_simp
        ((first | refine newvar_Kd ?_ | refine newvar_K ?_); intro wx hbx nv nf nz; have n0 := nv 0 _ rfl; have n1 := nv 1 _ rfl; clear nv nf; have bcur := below_step bcur hbx; have own12 := own_below own12 hbx; have c9 := cell_on bcur c9v)
        refine hK.out _ _ ?_ (fun hHeld => ?_)
        · exact ⟨cell_on bcur c4, cell_on bcur m10⟩
        clear hK K
        (try simp only [Act.put, List.setIfInBounds_toArray, List.set_cons_zero, List.set_cons_succ])
        refine wpAnyH_ready (rs := [15]) (by kernel_rfl) (by simp) ?_
        refine AllReadyH.cons (o := ?oi62) ?hi62 (fun K hK => ?hstep62) AllReadyH.nil
        case hi62 => (simp only [List.getElem?_toArray, List.getElem?_cons_succ, List.getElem?_cons_zero]; try rfl)
        (have hCc := hC.gro bcur; have hVn := fun ad (hA : V = some ad) => (own_lt own12 (k := ad.block) (by rw [hA]; rfl)).1; refine oper_app2 rfl (.tmp 53) (.tmp 63) 51 rfl base 71 Try.underlying51 infoAn rfl (by decide) (.slice s.aA s.ans.length s.ac) s.ans.length (s.ans.flatMap anEl.cells) rfl hCc.own.1 (some ⟨_, 0, none⟩) 1 1 [.int .i64 s.count, .slice V m.body.length k] rfl rfl (rdtwo n0 n1) (by intro u hu; simp at hu; rcases hu with rfl | rfl <;> rfl) (by omega) (by omega) (by have h1 := hC.lo; have h2 := bcur.size; have h3 := hC.row.1; omega) ?_; intro v15 w15 own15 hg15 hat15; obtain ⟨A15, c15, hv15, T15, hG15, hlb15⟩ := dl_app hCc (x := ⟨s.count, V, k, m.body⟩) (own_sl own12) (fun _ ad hA => by have h1 := hVn ad hA; have h2 := hlt; exact (show ad.block ≠ cb ∧ ad.block ≠ s.lb cb from by omega)) own15 hg15 hat15; subst hv15; have hg9 := (gro_grown (db := cb) hg15 : Gro cb (s.lb cb) _ _); have q4 : w15.cell? ⟨cb, 4, none⟩ = some (.int .i64 s.count) := (World.cell?_of_block (a := ⟨cb, 4, none⟩) (hg15.block cb hCc.row.1 hne9)).trans hHeld.1; have q10 : w15.cell? ⟨w.heap.size, 10, none⟩ = some (.slice m.A m.body.length m.c) := (World.cell?_of_block (a := ⟨w.heap.size, 10, none⟩) (hg9.block w.heap.size (Nat.lt_of_lt_of_le n8 bcur.size) (by omega) (by omega))).trans hHeld.2; have q9 : w15.cell? ⟨cb, 9, none⟩ = some (.slice s.aA s.ans.length s.ac) := (World.cell?_of_block (a := ⟨cb, 9, none⟩) (hg15.block cb hCc.row.1 hne9)).trans c9; have f9 : w15.frozen? ⟨cb, 9, none⟩ = false := (World.frozen?_of_block (a := ⟨cb, 9, none⟩) (hg15.block cb hCc.row.1 hne9)).trans (hCc.row.2 9 _ rfl).2)
        refine hK.out _ _ ?_ (fun hHeld => ?_)
        · exact ⟨q4, q10⟩
        clear hK K
        (try simp only [Act.put, List.setIfInBounds_toArray, List.set_cons_zero, List.set_cons_succ])
        refine wpAnyH_take (i := 16) (oi := ?oi63) (v := ?v63) ?hi63 (by kernel_rfl) (by kernel_rfl) (by kernel_rfl) ?hQ63 ?hy63 (by assumption) ?hrest63
        case hi63 => (simp only [List.getElem?_toArray, List.getElem?_cons_succ, List.getElem?_cons_zero]; try rfl)
        case hQ63 => exact fun _ _ _ h => h
        case hy63 =>
          refine Or.inl ⟨by rfl, ?_⟩
          (intro wq hSw; (try dsimp only at hSw); go_simp; try with_reducible rfl)
        (try simp only [Act.put, List.setIfInBounds_toArray, List.set_cons_zero, List.set_cons_succ])
        refine wpAnyH_take (i := 17) (oi := ?oi64) (v := ?v64) ?hi64 (by kernel_rfl) (by kernel_rfl) (by kernel_rfl) ?hQ64 ?hy64 (by assumption) ?hrest64
        case hi64 => (simp only [List.getElem?_toArray, List.getElem?_cons_succ, List.getElem?_cons_zero]; try rfl)
        case hQ64 => exact fun _ _ _ h => h
        case hy64 =>
          refine Or.inl ⟨by rfl, ?_⟩
          (intro wq hSw; (try dsimp only at hSw); go_simp; try with_reducible rfl)
        (try simp only [Act.put, List.setIfInBounds_toArray, List.set_cons_zero, List.set_cons_succ])
        refine wpAnyH_ready (rs := [18]) (by kernel_rfl) (by simp) ?_
        refine AllReadyH.cons (o := ?oi65) ?hi65 (fun K hK => ?hstep65) AllReadyH.nil
        case hi65 => (simp only [List.getElem?_toArray, List.getElem?_cons_succ, List.getElem?_cons_zero]; try rfl)
        go_simp
        (skip)
        refine hK.out _ _ ?_ (fun hHeld => ?_)
        · exact ⟨(World.cell?_setCell_other _ _ _ _ (by simp)).trans q4, (World.cell?_setCell_other _ _ _ _ (fun e => by injection e with e _; omega)).trans q10⟩
        clear hK K
        (try simp only [Act.put, List.setIfInBounds_toArray, List.set_cons_zero, List.set_cons_succ])
        refine wpAnyH_done (by kernel_rfl) ?_ _
        refine NoPanic.normal ?_
        (have hGf := (hG.trans (Gro.of_below bcur)).trans hG15; have hsc := bcur.size; clear own9 own12 own15 hg15 hat15 hg12 hat12 q4 q10 q9 f9 hHeld hg9 hCc; generalize World.setCell w15 ⟨cb, 9, none⟩ (.slice A15 (s.ans.length + 1) c15) = vy at T15 hGf ⊢; have c5 := (T15.row.2 5 _ rfl).1; have f5 := (T15.row.2 5 _ rfl).2; go_wp2_with fail; refine bodyPost_end (results_none rfl _ _ _) rfl ?_; have TT := T15.turn 5 (by decide) (.bool false) (takesD s m V k A15 c15) (by unfold takesD; rw [if_pos ⟨hw, hc⟩]; simp [Ds.cells, Ds.L, seesD]) (by unfold takesD; rw [if_pos ⟨hw, hc⟩]; exact ⟨rfl, rfl, rfl⟩) (by unfold takesD; rw [if_pos ⟨hw, hc⟩]; exact T15.body); have hl9 : (takesD s m V k A15 c15).lb cb = lbOf cb A15 := (by unfold takesD; rw [if_pos ⟨hw, hc⟩]; rfl); exact ⟨V, k, A15, c15, ⟨_, rfl⟩, TT.1, gro_more TT.2 hlb15 (Nat.le_trans hgs hsc) hGf, by rw [hl9]; exact hlb15.imp id (fun e => by rw [e]; exact Nat.le_trans hgs hsc), fun ad hA => Nat.le_trans hgs (hVn ad hA)⟩)
      refine AllReadyH.cons (o := ?oi66) ?hi66 (fun K hK => ?hstep66) ?hmore66
      case hi66 => (simp only [List.getElem?_toArray, List.getElem?_cons_succ, List.getElem?_cons_zero]; try rfl)
      case hstep66 =>
        go_simp
        (have hs0 := bcur.size; (first | refine newrowb_Kd vd.heap.size hs0 ?_ | refine newrowb_Kd vd.heap.size (Nat.le_refl _) ?_ | refine newrowb_K vd.heap.size hs0 ?_); intro wx hbx own9; have bcur := below_step bcur hbx; have c9 := cell_on bcur c9v)
        refine hK.out _ _ ?_ (fun hHeld => ?_)
        · exact ⟨cell_on hbx hHeld.1, cell_on hbx hHeld.2⟩
        clear hK K
        (try simp only [Act.put, List.setIfInBounds_toArray, List.set_cons_zero, List.set_cons_succ])
        refine wpAnyH_ready (rs := [4, 12]) (by kernel_rfl) (by simp) ?_
        refine AllReadyH.cons (o := ?oi67) ?hi67 (fun K hK => ?hstep67) ?hmore67
        case hi67 => (simp only [List.getElem?_toArray, List.getElem?_cons_succ, List.getElem?_cons_zero]; try rfl)
        case hstep67 =>
          go_simp
          (skip)
          refine hK.out _ _ ?_ (fun hHeld => ?_)
          · exact hHeld
          clear hK K
          (try simp only [Act.put, List.setIfInBounds_toArray, List.set_cons_zero, List.set_cons_succ])
          refine wpAnyH_ready (rs := [12]) (by kernel_rfl) (by simp) ?_
          refine AllReadyH.cons (o := ?oi68) ?hi68 (fun K hK => ?hstep68) AllReadyH.nil
          case hi68 => (simp only [List.getElem?_toArray, List.getElem?_cons_succ, List.getElem?_cons_zero]; try rfl)
          (refine oper_app2 rfl (.tmp 58) (.tmp 60) 29 rfl vd.heap.size 5 Try.underlying29 infoBd rfl (by decide) _ 0 [] rfl own9 m.A m.body.length m.c (m.body.map byt) rfl (by simp) (rdB.below bcur) (byt_one _) (by omega) (by omega) bcur.size ?_; intro v12 w12 own12 hg12 hat12; rw [Nat.zero_add, List.nil_append] at own12; obtain ⟨V, k, hV12, _⟩ := own_shape own12; subst hV12; have bcur := bcur.grown hg12 bcur.size (fun kk hk => (own_lt own9 hk).1); have c9 := cell_on bcur c9v)
          refine hK.out _ _ ?_ (fun hHeld => ?_)
          · exact ⟨cell_on bcur c4, cell_on bcur m10⟩
          clear hK K
          (try simp only [Act.put, List.setIfInBounds_toArray, List.set_cons_zero, List.set_cons_succ])
          refine wpAnyH_take (i := 13) (oi := ?oi69) (v := ?v69) ?hi69 (by kernel_rfl) (by kernel_rfl) (by kernel_rfl) ?hQ69 ?hy69 (by assumption) ?hrest69
          case hi69 => (simp only [List.getElem?_toArray, List.getElem?_cons_succ, List.getElem?_cons_zero]; try rfl)
          case hQ69 => exact fun _ _ _ h => h
          case hy69 =>
            refine Or.inl ⟨by rfl, ?_⟩
            (intro wq hSw; (try dsimp only at hSw); go_simp; try with_reducible rfl)
          (try simp only [Act.put, List.setIfInBounds_toArray, List.set_cons_zero, List.set_cons_succ])
          refine wpAnyH_ready (rs := [14]) (by kernel_rfl) (by simp) ?_
          refine AllReadyH.cons (o := ?oi70) ?hi70 (fun K hK => ?hstep70) AllReadyH.nil
          case hi70 => (simp only [List.getElem?_toArray, List.getElem?_cons_succ, List.getElem?_cons_zero]; try rfl)
          go_simp
          ((first | refine newvar_Kd ?_ | refine newvar_K ?_); intro wx hbx nv nf nz; have n0 := nv 0 _ rfl; have n1 := nv 1 _ rfl; clear nv nf; have bcur := below_step bcur hbx; have own12 := own_below own12 hbx; have c9 := cell_on bcur c9v)
          refine hK.out _ _ ?_ (fun hHeld => ?_)
          · exact ⟨cell_on bcur c4, cell_on bcur m10⟩
          clear hK K
          (try simp only [Act.put, List.setIfInBounds_toArray, List.set_cons_zero, List.set_cons_succ])
          refine wpAnyH_ready (rs := [15]) (by kernel_rfl) (by simp) ?_
          refine AllReadyH.cons (o := ?oi71) ?hi71 (fun K hK => ?hstep71) AllReadyH.nil
          case hi71 => (simp only [List.getElem?_toArray, List.getElem?_cons_succ, List.getElem?_cons_zero]; try rfl)
          (have hCc := hC.gro bcur; have hVn := fun ad (hA : V = some ad) => (own_lt own12 (k := ad.block) (by rw [hA]; rfl)).1; refine oper_app2 rfl (.tmp 53) (.tmp 63) 51 rfl base 71 Try.underlying51 infoAn rfl (by decide) (.slice s.aA s.ans.length s.ac) s.ans.length (s.ans.flatMap anEl.cells) rfl hCc.own.1 (some ⟨_, 0, none⟩) 1 1 [.int .i64 s.count, .slice V m.body.length k] rfl rfl (rdtwo n0 n1) (by intro u hu; simp at hu; rcases hu with rfl | rfl <;> rfl) (by omega) (by omega) (by have h1 := hC.lo; have h2 := bcur.size; have h3 := hC.row.1; omega) ?_; intro v15 w15 own15 hg15 hat15; obtain ⟨A15, c15, hv15, T15, hG15, hlb15⟩ := dl_app hCc (x := ⟨s.count, V, k, m.body⟩) (own_sl own12) (fun _ ad hA => by have h1 := hVn ad hA; have h2 := hlt; exact (show ad.block ≠ cb ∧ ad.block ≠ s.lb cb from by omega)) own15 hg15 hat15; subst hv15; have hg9 := (gro_grown (db := cb) hg15 : Gro cb (s.lb cb) _ _); have q4 : w15.cell? ⟨cb, 4, none⟩ = some (.int .i64 s.count) := (World.cell?_of_block (a := ⟨cb, 4, none⟩) (hg15.block cb hCc.row.1 hne9)).trans hHeld.1; have q10 : w15.cell? ⟨w.heap.size, 10, none⟩ = some (.slice m.A m.body.length m.c) := (World.cell?_of_block (a := ⟨w.heap.size, 10, none⟩) (hg9.block w.heap.size (Nat.lt_of_lt_of_le n8 bcur.size) (by omega) (by omega))).trans hHeld.2; have q9 : w15.cell? ⟨cb, 9, none⟩ = some (.slice s.aA s.ans.length s.ac) := (World.cell?_of_block (a := ⟨cb, 9, none⟩) (hg15.block cb hCc.row.1 hne9)).trans c9; have f9 : w15.frozen? ⟨cb, 9, none⟩ = false := (World.frozen?_of_block (a := ⟨cb, 9, none⟩) (hg15.block cb hCc.row.1 hne9)).trans (hCc.row.2 9 _ rfl).2)
          refine hK.out _ _ ?_ (fun hHeld => ?_)
          · exact ⟨q4, q10⟩
          clear hK K
          (try simp only [Act.put, List.setIfInBounds_toArray, List.set_cons_zero, List.set_cons_succ])
          refine wpAnyH_take (i := 16) (oi := ?oi72) (v := ?v72) ?hi72 (by kernel_rfl) (by kernel_rfl) (by kernel_rfl) ?hQ72 ?hy72 (by assumption) ?hrest72
          case hi72 => (simp only [List.getElem?_toArray, List.getElem?_cons_succ, List.getElem?_cons_zero]; try rfl)
          case hQ72 => exact fun _ _ _ h => h
          case hy72 =>
            refine Or.inl ⟨by rfl, ?_⟩
            (intro wq hSw; (try dsimp only at hSw); go_simp; try with_reducible rfl)
          (try simp only [Act.put, List.setIfInBounds_toArray, List.set_cons_zero, List.set_cons_succ])
          refine wpAnyH_take (i := 17) (oi := ?oi73) (v := ?v73) ?hi73 (by kernel_rfl) (by kernel_rfl) (by kernel_rfl) ?hQ73 ?hy73 (by assumption) ?hrest73
          case hi73 => (simp only [List.getElem?_toArray, List.getElem?_cons_succ, List.getElem?_cons_zero]; try rfl)
          case hQ73 => exact fun _ _ _ h => h
          case hy73 =>
            refine Or.inl ⟨by rfl, ?_⟩
            (intro wq hSw; (try dsimp only at hSw); go_simp; try with_reducible rfl)
          (try simp only [Act.put, List.setIfInBounds_toArray, List.set_cons_zero, List.set_cons_succ])
          refine wpAnyH_ready (rs := [18]) (by kernel_rfl) (by simp) ?_
          refine AllReadyH.cons (o := ?oi74) ?hi74 (fun K hK => ?hstep74) AllReadyH.nil
          case hi74 => (simp only [List.getElem?_toArray, List.getElem?_cons_succ, List.getElem?_cons_zero]; try rfl)
          go_simp
          (skip)
          refine hK.out _ _ ?_ (fun hHeld => ?_)
          · exact ⟨(World.cell?_setCell_other _ _ _ _ (by simp)).trans q4, (World.cell?_setCell_other _ _ _ _ (fun e => by injection e with e _; omega)).trans q10⟩
          clear hK K
          (try simp only [Act.put, List.setIfInBounds_toArray, List.set_cons_zero, List.set_cons_succ])
          refine wpAnyH_done (by kernel_rfl) ?_ _
          refine NoPanic.normal ?_
          (have hGf := (hG.trans (Gro.of_below bcur)).trans hG15; have hsc := bcur.size; clear own9 own12 own15 hg15 hat15 hg12 hat12 q4 q10 q9 f9 hHeld hg9 hCc; generalize World.setCell w15 ⟨cb, 9, none⟩ (.slice A15 (s.ans.length + 1) c15) = vy at T15 hGf ⊢; have c5 := (T15.row.2 5 _ rfl).1; have f5 := (T15.row.2 5 _ rfl).2; go_wp2_with fail; refine bodyPost_end (results_none rfl _ _ _) rfl ?_; have TT := T15.turn 5 (by decide) (.bool false) (takesD s m V k A15 c15) (by unfold takesD; rw [if_pos ⟨hw, hc⟩]; simp [Ds.cells, Ds.L, seesD]) (by unfold takesD; rw [if_pos ⟨hw, hc⟩]; exact ⟨rfl, rfl, rfl⟩) (by unfold takesD; rw [if_pos ⟨hw, hc⟩]; exact T15.body); have hl9 : (takesD s m V k A15 c15).lb cb = lbOf cb A15 := (by unfold takesD; rw [if_pos ⟨hw, hc⟩]; rfl); exact ⟨V, k, A15, c15, ⟨_, rfl⟩, TT.1, gro_more TT.2 hlb15 (Nat.le_trans hgs hsc) hGf, by rw [hl9]; exact hlb15.imp id (fun e => by rw [e]; exact Nat.le_trans hgs hsc), fun ad hA => Nat.le_trans hgs (hVn ad hA)⟩)
        refine AllReadyH.cons (o := ?oi75) ?hi75 (fun K hK => ?hstep75) ?hmore75
        case hi75 => (simp only [List.getElem?_toArray, List.getElem?_cons_succ, List.getElem?_cons_zero]; try rfl)
        case hstep75 =>
          (refine oper_app2 rfl (.tmp 58) (.tmp 60) 29 rfl vd.heap.size 5 Try.underlying29 infoBd rfl (by decide) _ 0 [] rfl own9 m.A m.body.length m.c (m.body.map byt) rfl (by simp) (rdB.below bcur) (byt_one _) (by omega) (by omega) bcur.size ?_; intro v12 w12 own12 hg12 hat12; rw [Nat.zero_add, List.nil_append] at own12; obtain ⟨V, k, hV12, _⟩ := own_shape own12; subst hV12; have bcur := bcur.grown hg12 bcur.size (fun kk hk => (own_lt own9 hk).1); have c9 := cell_on bcur c9v)
          refine hK.out _ _ ?_ (fun hHeld => ?_)
          · exact ⟨cell_on bcur c4, cell_on bcur m10⟩
          clear hK K
          (try simp only [Act.put, List.setIfInBounds_toArray, List.set_cons_zero, List.set_cons_succ])
          refine wpAnyH_take (i := 13) (oi := ?oi76) (v := ?v76) ?hi76 (by kernel_rfl) (by kernel_rfl) (by kernel_rfl) ?hQ76 ?hy76 (by assumption) ?hrest76
          case hi76 => (simp only [List.getElem?_toArray, List.getElem?_cons_succ, List.getElem?_cons_zero]; try rfl)
          case hQ76 => exact fun _ _ _ h => h
          case hy76 =>
            refine Or.inl ⟨by rfl, ?_⟩
            (intro wq hSw; (try dsimp only at hSw); go_simp; try with_reducible rfl)
          (try simp only [Act.put, List.setIfInBounds_toArray, List.set_cons_zero, List.set_cons_succ])
          refine wpAnyH_ready (rs := [4, 14]) (by kernel_rfl) (by simp) ?_
          refine AllReadyH.cons (o := ?oi77) ?hi77 (fun K hK => ?hstep77) ?hmore77
          case hi77 => (simp only [List.getElem?_toArray, List.getElem?_cons_succ, List.getElem?_cons_zero]; try rfl)
          case hstep77 =>
            go_simp
            (skip)
            refine hK.out _ _ ?_ (fun hHeld => ?_)
            · exact hHeld
            clear hK K
            (try simp only [Act.put, List.setIfInBounds_toArray, List.set_cons_zero, List.set_cons_succ])
            refine wpAnyH_ready (rs := [14]) (by kernel_rfl) (by simp) ?_
            refine AllReadyH.cons (o := ?oi78) ?hi78 (fun K hK => ?hstep78) AllReadyH.nil
            case hi78 => (simp only [List.getElem?_toArray, List.getElem?_cons_succ, List.getElem?_cons_zero]; try rfl)
            go_simp
            ((first | refine newvar_Kd ?_ | refine newvar_K ?_); intro wx hbx nv nf nz; have n0 := nv 0 _ rfl; have n1 := nv 1 _ rfl; clear nv nf; have bcur := below_step bcur hbx; have own12 := own_below own12 hbx; have c9 := cell_on bcur c9v)
            refine hK.out _ _ ?_ (fun hHeld => ?_)
            · exact ⟨cell_on bcur c4, cell_on bcur m10⟩
            clear hK K
            (try simp only [Act.put, List.setIfInBounds_toArray, List.set_cons_zero, List.set_cons_succ])
            refine wpAnyH_ready (rs := [15]) (by kernel_rfl) (by simp) ?_
            refine AllReadyH.cons (o := ?oi79) ?hi79 (fun K hK => ?hstep79) AllReadyH.nil
            case hi79 => (simp only [List.getElem?_toArray, List.getElem?_cons_succ, List.getElem?_cons_zero]; try rfl)
            (have hCc := hC.gro bcur; have hVn := fun ad (hA : V = some ad) => (own_lt own12 (k := ad.block) (by rw [hA]; rfl)).1; refine oper_app2 rfl (.tmp 53) (.tmp 63) 51 rfl base 71 Try.underlying51 infoAn rfl (by decide) (.slice s.aA s.ans.length s.ac) s.ans.length (s.ans.flatMap anEl.cells) rfl hCc.own.1 (some ⟨_, 0, none⟩) 1 1 [.int .i64 s.count, .slice V m.body.length k] rfl rfl (rdtwo n0 n1) (by intro u hu; simp at hu; rcases hu with rfl | rfl <;> rfl) (by omega) (by omega) (by have h1 := hC.lo; have h2 := bcur.size; have h3 := hC.row.1; omega) ?_; intro v15 w15 own15 hg15 hat15; obtain ⟨A15, c15, hv15, T15, hG15, hlb15⟩ := dl_app hCc (x := ⟨s.count, V, k, m.body⟩) (own_sl own12) (fun _ ad hA => by have h1 := hVn ad hA; have h2 := hlt; exact (show ad.block ≠ cb ∧ ad.block ≠ s.lb cb from by omega)) own15 hg15 hat15; subst hv15; have hg9 := (gro_grown (db := cb) hg15 : Gro cb (s.lb cb) _ _); have q4 : w15.cell? ⟨cb, 4, none⟩ = some (.int .i64 s.count) := (World.cell?_of_block (a := ⟨cb, 4, none⟩) (hg15.block cb hCc.row.1 hne9)).trans hHeld.1; have q10 : w15.cell? ⟨w.heap.size, 10, none⟩ = some (.slice m.A m.body.length m.c) := (World.cell?_of_block (a := ⟨w.heap.size, 10, none⟩) (hg9.block w.heap.size (Nat.lt_of_lt_of_le n8 bcur.size) (by omega) (by omega))).trans hHeld.2; have q9 : w15.cell? ⟨cb, 9, none⟩ = some (.slice s.aA s.ans.length s.ac) := (World.cell?_of_block (a := ⟨cb, 9, none⟩) (hg15.block cb hCc.row.1 hne9)).trans c9; have f9 : w15.frozen? ⟨cb, 9, none⟩ = false := (World.frozen?_of_block (a := ⟨cb, 9, none⟩) (hg15.block cb hCc.row.1 hne9)).trans (hCc.row.2 9 _ rfl).2)
            refine hK.out _ _ ?_ (fun hHeld => ?_)
            · exact ⟨q4, q10⟩
            clear hK K
            (try simp only [Act.put, List.setIfInBounds_toArray, List.set_cons_zero, List.set_cons_succ])
            refine wpAnyH_take (i := 16) (oi := ?oi80) (v := ?v80) ?hi80 (by kernel_rfl) (by kernel_rfl) (by kernel_rfl) ?hQ80 ?hy80 (by assumption) ?hrest80
            case hi80 => (simp only [List.getElem?_toArray, List.getElem?_cons_succ, List.getElem?_cons_zero]; try rfl)
            case hQ80 => exact fun _ _ _ h => h
            case hy80 =>
              refine Or.inl ⟨by rfl, ?_⟩
              (intro wq hSw; (try dsimp only at hSw); go_simp; try with_reducible rfl)
            (try simp only [Act.put, List.setIfInBounds_toArray, List.set_cons_zero, List.set_cons_succ])
            refine wpAnyH_take (i := 17) (oi := ?oi81) (v := ?v81) ?hi81 (by kernel_rfl) (by kernel_rfl) (by kernel_rfl) ?hQ81 ?hy81 (by assumption) ?hrest81
            case hi81 => (simp only [List.getElem?_toArray, List.getElem?_cons_succ, List.getElem?_cons_zero]; try rfl)
            case hQ81 => exact fun _ _ _ h => h
            case hy81 =>
              refine Or.inl ⟨by rfl, ?_⟩
              (intro wq hSw; (try dsimp only at hSw); go_simp; try with_reducible rfl)
            (try simp only [Act.put, List.setIfInBounds_toArray, List.set_cons_zero, List.set_cons_succ])
            refine wpAnyH_ready (rs := [18]) (by kernel_rfl) (by simp) ?_
            refine AllReadyH.cons (o := ?oi82) ?hi82 (fun K hK => ?hstep82) AllReadyH.nil
            case hi82 => (simp only [List.getElem?_toArray, List.getElem?_cons_succ, List.getElem?_cons_zero]; try rfl)
            go_simp
            (skip)
            refine hK.out _ _ ?_ (fun hHeld => ?_)
            · exact ⟨(World.cell?_setCell_other _ _ _ _ (by simp)).trans q4, (World.cell?_setCell_other _ _ _ _ (fun e => by injection e with e _; omega)).trans q10⟩
            clear hK K
            (try simp only [Act.put, List.setIfInBounds_toArray, List.set_cons_zero, List.set_cons_succ])
            refine wpAnyH_done (by kernel_rfl) ?_ _
            refine NoPanic.normal ?_
            (have hGf := (hG.trans (Gro.of_below bcur)).trans hG15; have hsc := bcur.size; clear own9 own12 own15 hg15 hat15 hg12 hat12 q4 q10 q9 f9 hHeld hg9 hCc; generalize World.setCell w15 ⟨cb, 9, none⟩ (.slice A15 (s.ans.length + 1) c15) = vy at T15 hGf ⊢; have c5 := (T15.row.2 5 _ rfl).1; have f5 := (T15.row.2 5 _ rfl).2; go_wp2_with fail; refine bodyPost_end (results_none rfl _ _ _) rfl ?_; have TT := T15.turn 5 (by decide) (.bool false) (takesD s m V k A15 c15) (by unfold takesD; rw [if_pos ⟨hw, hc⟩]; simp [Ds.cells, Ds.L, seesD]) (by unfold takesD; rw [if_pos ⟨hw, hc⟩]; exact ⟨rfl, rfl, rfl⟩) (by unfold takesD; rw [if_pos ⟨hw, hc⟩]; exact T15.body); have hl9 : (takesD s m V k A15 c15).lb cb = lbOf cb A15 := (by unfold takesD; rw [if_pos ⟨hw, hc⟩]; rfl); exact ⟨V, k, A15, c15, ⟨_, rfl⟩, TT.1, gro_more TT.2 hlb15 (Nat.le_trans hgs hsc) hGf, by rw [hl9]; exact hlb15.imp id (fun e => by rw [e]; exact Nat.le_trans hgs hsc), fun ad hA => Nat.le_trans hgs (hVn ad hA)⟩)
          refine AllReadyH.cons (o := ?oi83) ?hi83 (fun K hK => ?hstep83) ?hmore83
          case hi83 => (simp only [List.getElem?_toArray, List.getElem?_cons_succ, List.getElem?_cons_zero]; try rfl)
          case hstep83 =>
            go_simp
            ((first | refine newvar_Kd ?_ | refine newvar_K ?_); intro wx hbx nv nf nz; have n0 := nv 0 _ rfl; have n1 := nv 1 _ rfl; clear nv nf; have bcur := below_step bcur hbx; have own12 := own_below own12 hbx; have c9 := cell_on bcur c9v)
            refine hK.out _ _ ?_ (fun hHeld => ?_)
            · exact ⟨cell_on bcur c4, cell_on bcur m10⟩
            clear hK K
            (try simp only [Act.put, List.setIfInBounds_toArray, List.set_cons_zero, List.set_cons_succ])
            refine wpAnyH_ready (rs := [4]) (by kernel_rfl) (by simp) ?_
            refine AllReadyH.cons (o := ?oi84) ?hi84 (fun K hK => ?hstep84) AllReadyH.nil
            case hi84 => (simp only [List.getElem?_toArray, List.getElem?_cons_succ, List.getElem?_cons_zero]; try rfl)
            go_simp
            (skip)
            refine hK.out _ _ ?_ (fun hHeld => ?_)
            · exact hHeld
            clear hK K
            (try simp only [Act.put, List.setIfInBounds_toArray, List.set_cons_zero, List.set_cons_succ])
            refine wpAnyH_ready (rs := [15]) (by kernel_rfl) (by simp) ?_
            refine AllReadyH.cons (o := ?oi85) ?hi85 (fun K hK => ?hstep85) AllReadyH.nil
            case hi85 => (simp only [List.getElem?_toArray, List.getElem?_cons_succ, List.getElem?_cons_zero]; try rfl)
            (have hCc := hC.gro bcur; have hVn := fun ad (hA : V = some ad) => (own_lt own12 (k := ad.block) (by rw [hA]; rfl)).1; refine oper_app2 rfl (.tmp 53) (.tmp 63) 51 rfl base 71 Try.underlying51 infoAn rfl (by decide) (.slice s.aA s.ans.length s.ac) s.ans.length (s.ans.flatMap anEl.cells) rfl hCc.own.1 (some ⟨_, 0, none⟩) 1 1 [.int .i64 s.count, .slice V m.body.length k] rfl rfl (rdtwo n0 n1) (by intro u hu; simp at hu; rcases hu with rfl | rfl <;> rfl) (by omega) (by omega) (by have h1 := hC.lo; have h2 := bcur.size; have h3 := hC.row.1; omega) ?_; intro v15 w15 own15 hg15 hat15; obtain ⟨A15, c15, hv15, T15, hG15, hlb15⟩ := dl_app hCc (x := ⟨s.count, V, k, m.body⟩) (own_sl own12) (fun _ ad hA => by have h1 := hVn ad hA; have h2 := hlt; exact (show ad.block ≠ cb ∧ ad.block ≠ s.lb cb from by omega)) own15 hg15 hat15; subst hv15; have hg9 := (gro_grown (db := cb) hg15 : Gro cb (s.lb cb) _ _); have q4 : w15.cell? ⟨cb, 4, none⟩ = some (.int .i64 s.count) := (World.cell?_of_block (a := ⟨cb, 4, none⟩) (hg15.block cb hCc.row.1 hne9)).trans hHeld.1; have q10 : w15.cell? ⟨w.heap.size, 10, none⟩ = some (.slice m.A m.body.length m.c) := (World.cell?_of_block (a := ⟨w.heap.size, 10, none⟩) (hg9.block w.heap.size (Nat.lt_of_lt_of_le n8 bcur.size) (by omega) (by omega))).trans hHeld.2; have q9 : w15.cell? ⟨cb, 9, none⟩ = some (.slice s.aA s.ans.length s.ac) := (World.cell?_of_block (a := ⟨cb, 9, none⟩) (hg15.block cb hCc.row.1 hne9)).trans c9; have f9 : w15.frozen? ⟨cb, 9, none⟩ = false := (World.frozen?_of_block (a := ⟨cb, 9, none⟩) (hg15.block cb hCc.row.1 hne9)).trans (hCc.row.2 9 _ rfl).2)
            refine hK.out _ _ ?_ (fun hHeld => ?_)
            · exact ⟨q4, q10⟩
            clear hK K
            (try simp only [Act.put, List.setIfInBounds_toArray, List.set_cons_zero, List.set_cons_succ])
            refine wpAnyH_take (i := 16) (oi := ?oi86) (v := ?v86) ?hi86 (by kernel_rfl) (by kernel_rfl) (by kernel_rfl) ?hQ86 ?hy86 (by assumption) ?hrest86
            case hi86 => (simp only [List.getElem?_toArray, List.getElem?_cons_succ, List.getElem?_cons_zero]; try rfl)
            case hQ86 => exact fun _ _ _ h => h
            case hy86 =>
              refine Or.inl ⟨by rfl, ?_⟩
              (intro wq hSw; (try dsimp only at hSw); go_simp; try with_reducible rfl)
            (try simp only [Act.put, List.setIfInBounds_toArray, List.set_cons_zero, List.set_cons_succ])
            refine wpAnyH_take (i := 17) (oi := ?oi87) (v := ?v87) ?hi87 (by kernel_rfl) (by kernel_rfl) (by kernel_rfl) ?hQ87 ?hy87 (by assumption) ?hrest87
            case hi87 => (simp only [List.getElem?_toArray, List.getElem?_cons_succ, List.getElem?_cons_zero]; try rfl)
            case hQ87 => exact fun _ _ _ h => h
            case hy87 =>
              refine Or.inl ⟨by rfl, ?_⟩
              (intro wq hSw; (try dsimp only at hSw); go_simp; try with_reducible rfl)
            (try simp only [Act.put, List.setIfInBounds_toArray, List.set_cons_zero, List.set_cons_succ])
            refine wpAnyH_ready (rs := [18]) (by kernel_rfl) (by simp) ?_
            refine AllReadyH.cons (o := ?oi88) ?hi88 (fun K hK => ?hstep88) AllReadyH.nil
            case hi88 => (simp only [List.getElem?_toArray, List.getElem?_cons_succ, List.getElem?_cons_zero]; try rfl)
            go_simp
            (skip)
            refine hK.out _ _ ?_ (fun hHeld => ?_)
            · exact ⟨(World.cell?_setCell_other _ _ _ _ (by simp)).trans q4, (World.cell?_setCell_other _ _ _ _ (fun e => by injection e with e _; omega)).trans q10⟩
            clear hK K
            (try simp only [Act.put, List.setIfInBounds_toArray, List.set_cons_zero, List.set_cons_succ])
            refine wpAnyH_done (by kernel_rfl) ?_ _
            refine NoPanic.normal ?_
            (have hGf := (hG.trans (Gro.of_below bcur)).trans hG15; have hsc := bcur.size; clear own9 own12 own15 hg15 hat15 hg12 hat12 q4 q10 q9 f9 hHeld hg9 hCc; generalize World.setCell w15 ⟨cb, 9, none⟩ (.slice A15 (s.ans.length + 1) c15) = vy at T15 hGf ⊢; have c5 := (T15.row.2 5 _ rfl).1; have f5 := (T15.row.2 5 _ rfl).2; go_wp2_with fail; refine bodyPost_end (results_none rfl _ _ _) rfl ?_; have TT := T15.turn 5 (by decide) (.bool false) (takesD s m V k A15 c15) (by unfold takesD; rw [if_pos ⟨hw, hc⟩]; simp [Ds.cells, Ds.L, seesD]) (by unfold takesD; rw [if_pos ⟨hw, hc⟩]; exact ⟨rfl, rfl, rfl⟩) (by unfold takesD; rw [if_pos ⟨hw, hc⟩]; exact T15.body); have hl9 : (takesD s m V k A15 c15).lb cb = lbOf cb A15 := (by unfold takesD; rw [if_pos ⟨hw, hc⟩]; rfl); exact ⟨V, k, A15, c15, ⟨_, rfl⟩, TT.1, gro_more TT.2 hlb15 (Nat.le_trans hgs hsc) hGf, by rw [hl9]; exact hlb15.imp id (fun e => by rw [e]; exact Nat.le_trans hgs hsc), fun ad hA => Nat.le_trans hgs (hVn ad hA)⟩)
          exact AllReadyH.nil
        exact AllReadyH.nil
      exact AllReadyH.nil
    ·
      have hcc : (m.req == s.count) = false := by simpa using hc
      refine wp_region_noPanic ?_
      refine wp_region_held_drew (S := (fun W => Below vc.heap.size vc W)) (by kernel_rfl) ?_ (fun hHeld => ?_)
      · exact (Below.refl _ _).drew
      refine wpAnyH_take (i := 0) (oi := ?oi89) (v := ?v89) ?hi89 (by kernel_rfl) (by kernel_rfl) (by kernel_rfl) ?hQ89 ?hy89 (by assumption) ?hrest89
      case hi89 => (simp only [List.getElem?_toArray, List.getElem?_cons_zero]; try rfl)
      case hQ89 => exact fun _ _ _ h => h
      case hy89 =>
        refine Or.inl ⟨by rfl, ?_⟩
        (intro wq hSw; (try dsimp only at hSw); go_simp; try with_reducible rfl)
      (try simp only [Act.put, List.setIfInBounds_toArray, List.set_cons_zero, List.set_cons_succ])
      refine wpAnyH_take (i := 1) (oi := ?oi90) (v := ?v90) ?hi90 (by kernel_rfl) (by kernel_rfl) (by kernel_rfl) ?hQ90 ?hy90 (by assumption) ?hrest90
      case hi90 => (simp only [List.getElem?_toArray, List.getElem?_cons_succ, List.getElem?_cons_zero]; try rfl)
      case hQ90 => exact fun _ _ _ h => h
      case hy90 =>
        refine Or.inl ⟨by rfl, ?_⟩
        (intro wq hSw; (try dsimp only at hSw); go_simp; try with_reducible rfl)
      (try simp only [Act.put, List.setIfInBounds_toArray, List.set_cons_zero, List.set_cons_succ])
      refine wpAnyH_take (i := 2) (oi := ?oi91) (v := ?v91) ?hi91 (by kernel_rfl) (by kernel_rfl) (by kernel_rfl) ?hQ91 ?hy91 (by assumption) ?hrest91
      case hi91 => (simp only [List.getElem?_toArray, List.getElem?_cons_succ, List.getElem?_cons_zero]; try rfl)
      case hQ91 => exact fun _ _ _ h => h
      case hy91 =>
        refine Or.inl ⟨by rfl, ?_⟩
        (intro wq hSw; (try dsimp only at hSw); go_simp; try with_reducible rfl)
      (try simp only [Act.put, List.setIfInBounds_toArray, List.set_cons_zero, List.set_cons_succ])
      refine wpAnyH_take (i := 3) (oi := ?oi92) (v := ?v92) ?hi92 (by kernel_rfl) (by kernel_rfl) (by kernel_rfl) ?hQ92 ?hy92 (by assumption) ?hrest92
      case hi92 => (simp only [List.getElem?_toArray, List.getElem?_cons_succ, List.getElem?_cons_zero]; try rfl)
      case hQ92 => exact fun _ _ _ h => h
      case hy92 =>
        refine Or.inl ⟨by rfl, ?_⟩
        (intro wq hSw; (try dsimp only at hSw); go_simp; try with_reducible rfl)
      (try simp only [Act.put, List.setIfInBounds_toArray, List.set_cons_zero, List.set_cons_succ])
      refine wpAnyH_take (i := 4) (oi := ?oi93) (v := ?v93) ?hi93 (by kernel_rfl) (by kernel_rfl) (by kernel_rfl) ?hQ93 ?hy93 (by assumption) ?hrest93
      case hi93 => (simp only [List.getElem?_toArray, List.getElem?_cons_succ, List.getElem?_cons_zero]; try rfl)
      case hQ93 => exact fun _ _ _ h => h
      case hy93 =>
        refine Or.inl ⟨by rfl, ?_⟩
        (intro wq hSw; (try dsimp only at hSw); go_simp; try with_reducible rfl)
      (try simp only [Act.put, List.setIfInBounds_toArray, List.set_cons_zero, List.set_cons_succ])
      refine wpAnyH_take (i := 5) (oi := ?oi94) (v := ?v94) ?hi94 (by kernel_rfl) (by kernel_rfl) (by kernel_rfl) ?hQ94 ?hy94 (by assumption) ?hrest94
      case hi94 => (simp only [List.getElem?_toArray, List.getElem?_cons_succ, List.getElem?_cons_zero]; try rfl)
      case hQ94 => exact fun _ _ _ h => h
      case hy94 =>
        refine Or.inl ⟨by rfl, ?_⟩
        (intro wq hSw; (try dsimp only at hSw); go_simp; try with_reducible rfl)
      (try simp only [Act.put, List.setIfInBounds_toArray, List.set_cons_zero, List.set_cons_succ])
      refine wpAnyH_take (i := 6) (oi := ?oi95) (v := ?v95) ?hi95 (by kernel_rfl) (by kernel_rfl) (by kernel_rfl) ?hQ95 ?hy95 (by assumption) ?hrest95
      case hi95 => (simp only [List.getElem?_toArray, List.getElem?_cons_succ, List.getElem?_cons_zero]; try rfl)
      case hQ95 => exact fun _ _ _ h => h
      case hy95 =>
        refine Or.inl ⟨by rfl, ?_⟩
        (intro wq hSw; (try dsimp only at hSw); go_simp; try with_reducible rfl)
      (try simp only [Act.put, List.setIfInBounds_toArray, List.set_cons_zero, List.set_cons_succ])
      refine wpAnyH_take (i := 7) (oi := ?oi96) (v := ?v96) ?hi96 (by kernel_rfl) (by kernel_rfl) (by kernel_rfl) ?hQ96 ?hy96 (by assumption) ?hrest96
      case hi96 => (simp only [List.getElem?_toArray, List.getElem?_cons_succ, List.getElem?_cons_zero]; try rfl)
      case hQ96 => exact fun _ _ _ h => h
      case hy96 =>
        refine Or.inl ⟨by rfl, ?_⟩
        (intro wq hSw; (try dsimp only at hSw); go_simp; try with_reducible rfl)
      (try simp only [Act.put, List.setIfInBounds_toArray, List.set_cons_zero, List.set_cons_succ])
      refine wpAnyH_take (i := 8) (oi := ?oi97) (v := ?v97) ?hi97 (by kernel_rfl) (by kernel_rfl) (by kernel_rfl) ?hQ97 ?hy97 (by assumption) ?hrest97
      case hi97 => (simp only [List.getElem?_toArray, List.getElem?_cons_succ, List.getElem?_cons_zero]; try rfl)
      case hQ97 => exact fun _ _ _ h => h
      case hy97 =>
        refine Or.inl ⟨by rfl, ?_⟩
        (intro wq hSw; (try dsimp only at hSw); go_simp; try with_reducible rfl)
      (try simp only [Act.put, List.setIfInBounds_toArray, List.set_cons_zero, List.set_cons_succ])
      refine wpAnyH_take (i := 9) (oi := ?oi98) (v := ?v98) ?hi98 (by kernel_rfl) (by kernel_rfl) (by kernel_rfl) ?hQ98 ?hy98 (by assumption) ?hrest98
      case hi98 => (simp only [List.getElem?_toArray, List.getElem?_cons_succ, List.getElem?_cons_zero]; try rfl)
      case hQ98 => exact fun _ _ _ h => h
      case hy98 =>
        refine Or.inl ⟨by rfl, ?_⟩
        (intro wq hSw; (try dsimp only at hSw); go_simp; try with_reducible rfl)
      (try simp only [Act.put, List.setIfInBounds_toArray, List.set_cons_zero, List.set_cons_succ])
      refine wpAnyH_take (i := 10) (oi := ?oi99) (v := ?v99) ?hi99 (by kernel_rfl) (by kernel_rfl) (by kernel_rfl) ?hQ99 ?hy99 (by assumption) ?hrest99
      case hi99 => (simp only [List.getElem?_toArray, List.getElem?_cons_succ, List.getElem?_cons_zero]; try rfl)
      case hQ99 => exact fun _ _ _ h => h
      case hy99 =>
        refine Or.inl ⟨by rfl, ?_⟩
        (intro wq hSw; (try dsimp only at hSw); go_simp; try with_reducible rfl)
      (try simp only [Act.put, List.setIfInBounds_toArray, List.set_cons_zero, List.set_cons_succ])
      refine wpAnyH_take (i := 11) (oi := ?oi100) (v := ?v100) ?hi100 (by kernel_rfl) (by kernel_rfl) (by kernel_rfl) ?hQ100 ?hy100 (by assumption) ?hrest100
      case hi100 => (simp only [List.getElem?_toArray, List.getElem?_cons_succ, List.getElem?_cons_zero]; try rfl)
      case hQ100 => exact fun _ _ _ h => h
      case hy100 =>
        refine Or.inl ⟨by rfl, ?_⟩
        (intro wq hSw; (try dsimp only at hSw); go_simp; try with_reducible rfl)
      (try simp only [Act.put, List.setIfInBounds_toArray, List.set_cons_zero, List.set_cons_succ])
      refine wpAnyH_take (i := 12) (oi := ?oi101) (v := ?v101) ?hi101 (by kernel_rfl) (by kernel_rfl) (by kernel_rfl) ?hQ101 ?hy101 (by assumption) ?hrest101
      case hi101 => (simp only [List.getElem?_toArray, List.getElem?_cons_succ, List.getElem?_cons_zero]; try rfl)
      case hQ101 => exact fun _ _ _ h => h
      case hy101 =>
        refine Or.inl ⟨by rfl, ?_⟩
        (intro wq hSw; (try dsimp only at hSw); go_simp; try with_reducible rfl)
      (try simp only [Act.put, List.setIfInBounds_toArray, List.set_cons_zero, List.set_cons_succ])
      refine wpAnyH_done (by kernel_rfl) ?_ _
      refine NoPanic.normal ?_
      go_wp2_with fail
      refine bodyPost_end (results_none rfl _ _ _) rfl ?_
      have ht : takesD s m none 0 none 0 = seesD s m := by unfold takesD; rw [if_neg (fun e => hc e.2)]
      exact ⟨none, 0, none, 0, ⟨_, rfl⟩, by rw [ht]; exact hC.gro hHeld, hG.trans (Gro.of_below hHeld), by rw [ht]; exact .inl hlb, fun ad hA => by cases hA⟩
  · have hw0 : s.waits = false := by simpa using hw
    rw [hw0] at k5
    refine wp_region_noPanic ?_
    refine wp_region_held_drew (S := (fun W => Below vc.heap.size vc W)) (by kernel_rfl) ?_ (fun hHeld => ?_)
    · exact (Below.refl _ _).drew
    refine wpAnyH_take (i := 0) (oi := ?oi102) (v := ?v102) ?hi102 (by kernel_rfl) (by kernel_rfl) (by kernel_rfl) ?hQ102 ?hy102 (by assumption) ?hrest102
    case hi102 => (simp only [List.getElem?_toArray, List.getElem?_cons_zero]; try rfl)
    case hQ102 => exact fun _ _ _ h => h
    case hy102 =>
      refine Or.inl ⟨by rfl, ?_⟩
      (intro wq hSw; (try dsimp only at hSw); go_simp; try with_reducible rfl)
    (try simp only [Act.put, List.setIfInBounds_toArray, List.set_cons_zero, List.set_cons_succ])
    refine wpAnyH_take (i := 1) (oi := ?oi103) (v := ?v103) ?hi103 (by kernel_rfl) (by kernel_rfl) (by kernel_rfl) ?hQ103 ?hy103 (by assumption) ?hrest103
    case hi103 => (simp only [List.getElem?_toArray, List.getElem?_cons_succ, List.getElem?_cons_zero]; try rfl)
    case hQ103 => exact fun _ _ _ h => h
    case hy103 =>
      refine Or.inl ⟨by rfl, ?_⟩
      (intro wq hSw; (try dsimp only at hSw); go_simp; try with_reducible rfl)
    (try simp only [Act.put, List.setIfInBounds_toArray, List.set_cons_zero, List.set_cons_succ])
    refine wpAnyH_take (i := 2) (oi := ?oi104) (v := ?v104) ?hi104 (by kernel_rfl) (by kernel_rfl) (by kernel_rfl) ?hQ104 ?hy104 (by assumption) ?hrest104
    case hi104 => (simp only [List.getElem?_toArray, List.getElem?_cons_succ, List.getElem?_cons_zero]; try rfl)
    case hQ104 => exact fun _ _ _ h => h
    case hy104 =>
      refine Or.inl ⟨by rfl, ?_⟩
      (intro wq hSw; (try dsimp only at hSw); go_simp; try with_reducible rfl)
    (try simp only [Act.put, List.setIfInBounds_toArray, List.set_cons_zero, List.set_cons_succ])
    refine wpAnyH_take (i := 3) (oi := ?oi105) (v := ?v105) ?hi105 (by kernel_rfl) (by kernel_rfl) (by kernel_rfl) ?hQ105 ?hy105 (by assumption) ?hrest105
    case hi105 => (simp only [List.getElem?_toArray, List.getElem?_cons_succ, List.getElem?_cons_zero]; try rfl)
    case hQ105 => exact fun _ _ _ h => h
    case hy105 =>
      refine Or.inl ⟨by rfl, ?_⟩
      (intro wq hSw; (try dsimp only at hSw); go_simp; try with_reducible rfl)
    (try simp only [Act.put, List.setIfInBounds_toArray, List.set_cons_zero, List.set_cons_succ])
    refine wpAnyH_take (i := 4) (oi := ?oi106) (v := ?v106) ?hi106 (by kernel_rfl) (by kernel_rfl) (by kernel_rfl) ?hQ106 ?hy106 (by assumption) ?hrest106
    case hi106 => (simp only [List.getElem?_toArray, List.getElem?_cons_succ, List.getElem?_cons_zero]; try rfl)
    case hQ106 => exact fun _ _ _ h => h
    case hy106 =>
      refine Or.inl ⟨by rfl, ?_⟩
      (intro wq hSw; (try dsimp only at hSw); go_simp; try with_reducible rfl)
    (try simp only [Act.put, List.setIfInBounds_toArray, List.set_cons_zero, List.set_cons_succ])
    refine wpAnyH_take (i := 5) (oi := ?oi107) (v := undef) ?hi107 (by kernel_rfl) (by kernel_rfl) (by kernel_rfl) ?hQ107 ?hy107 (by assumption) ?hrest107
    case hi107 => (simp only [List.getElem?_toArray, List.getElem?_cons_succ, List.getElem?_cons_zero]; try rfl)
    case hQ107 => exact fun _ _ _ h => h
    case hy107 => exact Or.inr ⟨by rfl, rfl⟩
    (try simp only [Act.put, List.setIfInBounds_toArray, List.set_cons_zero, List.set_cons_succ])
    refine wpAnyH_take (i := 6) (oi := ?oi108) (v := undef) ?hi108 (by kernel_rfl) (by kernel_rfl) (by kernel_rfl) ?hQ108 ?hy108 (by assumption) ?hrest108
    case hi108 => (simp only [List.getElem?_toArray, List.getElem?_cons_succ, List.getElem?_cons_zero]; try rfl)
    case hQ108 => exact fun _ _ _ h => h
    case hy108 => exact Or.inr ⟨by rfl, rfl⟩
    (try simp only [Act.put, List.setIfInBounds_toArray, List.set_cons_zero, List.set_cons_succ])
    refine wpAnyH_take (i := 7) (oi := ?oi109) (v := undef) ?hi109 (by kernel_rfl) (by kernel_rfl) (by kernel_rfl) ?hQ109 ?hy109 (by assumption) ?hrest109
    case hi109 => (simp only [List.getElem?_toArray, List.getElem?_cons_succ, List.getElem?_cons_zero]; try rfl)
    case hQ109 => exact fun _ _ _ h => h
    case hy109 => exact Or.inr ⟨by rfl, rfl⟩
    (try simp only [Act.put, List.setIfInBounds_toArray, List.set_cons_zero, List.set_cons_succ])
    refine wpAnyH_take (i := 8) (oi := ?oi110) (v := undef) ?hi110 (by kernel_rfl) (by kernel_rfl) (by kernel_rfl) ?hQ110 ?hy110 (by assumption) ?hrest110
    case hi110 => (simp only [List.getElem?_toArray, List.getElem?_cons_succ, List.getElem?_cons_zero]; try rfl)
    case hQ110 => exact fun _ _ _ h => h
    case hy110 => exact Or.inr ⟨by rfl, rfl⟩
    (try simp only [Act.put, List.setIfInBounds_toArray, List.set_cons_zero, List.set_cons_succ])
    refine wpAnyH_take (i := 9) (oi := ?oi111) (v := undef) ?hi111 (by kernel_rfl) (by kernel_rfl) (by kernel_rfl) ?hQ111 ?hy111 (by assumption) ?hrest111
    case hi111 => (simp only [List.getElem?_toArray, List.getElem?_cons_succ, List.getElem?_cons_zero]; try rfl)
    case hQ111 => exact fun _ _ _ h => h
    case hy111 => exact Or.inr ⟨by rfl, rfl⟩
    (try simp only [Act.put, List.setIfInBounds_toArray, List.set_cons_zero, List.set_cons_succ])
    refine wpAnyH_take (i := 10) (oi := ?oi112) (v := undef) ?hi112 (by kernel_rfl) (by kernel_rfl) (by kernel_rfl) ?hQ112 ?hy112 (by assumption) ?hrest112
    case hi112 => (simp only [List.getElem?_toArray, List.getElem?_cons_succ, List.getElem?_cons_zero]; try rfl)
    case hQ112 => exact fun _ _ _ h => h
    case hy112 => exact Or.inr ⟨by rfl, rfl⟩
    (try simp only [Act.put, List.setIfInBounds_toArray, List.set_cons_zero, List.set_cons_succ])
    refine wpAnyH_take (i := 11) (oi := ?oi113) (v := undef) ?hi113 (by kernel_rfl) (by kernel_rfl) (by kernel_rfl) ?hQ113 ?hy113 (by assumption) ?hrest113
    case hi113 => (simp only [List.getElem?_toArray, List.getElem?_cons_succ, List.getElem?_cons_zero]; try rfl)
    case hQ113 => exact fun _ _ _ h => h
    case hy113 => exact Or.inr ⟨by rfl, rfl⟩
    (try simp only [Act.put, List.setIfInBounds_toArray, List.set_cons_zero, List.set_cons_succ])
    refine wpAnyH_take (i := 12) (oi := ?oi114) (v := ?v114) ?hi114 (by kernel_rfl) (by kernel_rfl) (by kernel_rfl) ?hQ114 ?hy114 (by assumption) ?hrest114
    case hi114 => (simp only [List.getElem?_toArray, List.getElem?_cons_succ, List.getElem?_cons_zero]; try rfl)
    case hQ114 => exact fun _ _ _ h => h
    case hy114 =>
      refine Or.inl ⟨by rfl, ?_⟩
      (intro wq hSw; (try dsimp only at hSw); go_simp; try with_reducible rfl)
    (try simp only [Act.put, List.setIfInBounds_toArray, List.set_cons_zero, List.set_cons_succ])
    refine wpAnyH_done (by kernel_rfl) ?_ _
    refine NoPanic.normal ?_
    go_wp2_with fail
    refine bodyPost_end (results_none rfl _ _ _) rfl ?_
    have ht : takesD s m none 0 none 0 = seesD s m := by unfold takesD; rw [if_neg (fun e => hw e.1)]
    exact ⟨none, 0, none, 0, ⟨_, rfl⟩, by rw [ht]; exact hC.gro hHeld, hG.trans (Gro.of_below hHeld), by rw [ht]; exact .inl hlb, fun ad hA => by cases hA⟩
end Go.Proofs.Ytelmndpelgbboaa
