import Derived.Test.YtoceipdkmafagaaOpI
/-! op: a reply's bytes -/
namespace Go.Proofs.Ytoceipdkmafagaa
open Go.RowKit Go.Cov
/-- a reply in memory -/
structure Ra where
  er : Int
  pl : Int
  v : En
  tr : Int
  us : Int
  fd : Bool
  tA : Option Addr
  tc : Nat
  t : List UInt8
def Ra.cells (r : Ra) : List Value := [.int .i64 r.er, .int .i64 r.pl, .int .i64 r.v.c, .int .i64 r.v.r, .slice r.v.A r.v.op.length r.v.cap, .int .i64 r.tr, .int .i64 r.us, .bool r.fd, .slice r.tA r.t.length r.tc]
def Ra.val (r : Ra) : Value := .agg #[.int .i64 r.er, .int .i64 r.pl, .int .i64 r.v.c, .int .i64 r.v.r, .slice r.v.A r.v.op.length r.v.cap, .int .i64 r.tr, .int .i64 r.us, .bool r.fd, .slice r.tA r.t.length r.tc]
def Ra.data (r : Ra) : RD := (r.er, r.pl, r.v.data, r.tr, r.us, r.fd, r.t)
/-- what it leads to can be read -/
structure RaRd (w : World) (r : Ra) : Prop where
  v : Rd w r.v.A (r.v.op.map byt)
  t : Rd w r.tA (r.t.map byt)
  vc : r.v.op.length ≤ r.v.cap ∧ r.v.cap ≤ maxLen
  tc : r.t.length ≤ r.tc ∧ r.tc ≤ maxLen
theorem RaRd.below {w w' : World} {r : Ra} (h : RaRd w r) (hb : Below w.heap.size w w') : RaRd w' r := ⟨h.v.below hb, h.t.below hb, h.vc, h.tc⟩
set_option maxRecDepth 100000 in
set_option maxHeartbeats 3200000 in
theorem rightreply_any (r : Ra) (w : World) : Calls Try.prog 26 #[r.val] w fun e w' => e = .returned (.bool (rightR r.data)) ∧ Below w.heap.size w w' := by
  have b0 := below_alloc w (.cells r.cells.toArray 34)
  have hv : rightR r.data = (plainN r.v.c r.v.r r.v.op.length && decide (r.t.length ≤ 65536)) := rfl
  have jl : decide ((r.t.length : Int) ≤ 65536) = decide (r.t.length ≤ 65536) := by by_cases h : r.t.length ≤ 65536 <;> simp [h] <;> omega
  rw [hv]
  clear hv
  have C8 := (Row.new w r.cells 34).2 8 (.slice r.tA r.t.length r.tc) rfl
  unfold Ra.val Ra.cells at *
  obtain ⟨pl, hpl⟩ : ∃ pl, pl = plainN r.v.c r.v.r r.v.op.length := ⟨_, rfl⟩
  have hP := fun (W : World) => plain_any r.v.c r.v.r r.v.A r.v.op.length r.v.cap W
  rw [← hpl] at hP ⊢
  clear hpl
  cases pl
  · go_enter Try.func26, Try.ntmps26
    go_wp2_with fail
    refine (hP _).mono ?_
    rintro e w2 ⟨rfl, hb2⟩
    go_wp2_with fail
    go_ret
    exact ⟨rfl, below_step b0 hb2⟩
  · rw [← jl]
    go_enter Try.func26, Try.ntmps26
    go_wp2_with fail
    refine (hP _).mono ?_
    rintro e w2 ⟨rfl, hb2⟩
    have D8 := cell_on hb2 C8.1
    clear C8 jl
    go_wp2_with fail
    go_ret
    exact ⟨by simp, below_step b0 hb2⟩
set_option maxRecDepth 100000 in
set_option maxHeartbeats 12800000 in
theorem putreply_any (r : Ra) {w : World} (h : RaRd w r) :
    Calls Try.prog 12 #[r.val] w fun e w' => ∃ v, e = .returned (.tuple #[v, .int .i64 (bytesRp r.data).2]) ∧ w'.ownsRow w.heap.size 5 1 v (bytesRp r.data).1.length ((bytesRp r.data).1.map byt) ∧ Below w.heap.size w w' := by
  have b0 := below_alloc w (.cells r.cells.toArray 34)
  have R0 := Row.new w r.cells 34
  have h1 := h.below b0
  have hrt := fun (W : World) => rightreply_any r W
  cases hR : rightR r.data
  case false =>
    have e : bytesRp r.data = ([], 151) := by unfold bytesRp; rw [hR, if_neg (by decide)]
    rw [e]
    clear e
    rw [hR] at hrt
    clear hR
    unfold Ra.val Ra.cells at *
    go_enter Try.func12, Try.ntmps12
    go_wp2_with fail
    refine (hrt _).mono ?_
    rintro e w2 ⟨rfl, hb2⟩
    go_wp2_with fail
    go_ret2
    exact ⟨_, rfl, World.ownsRow_nil _ _ _ _, below_step b0 hb2⟩
  have e : bytesRp r.data = (putR r.data, 0) := by unfold bytesRp; rw [hR, if_pos rfl]
  rw [e]
  clear e
  rw [hR] at hrt
  have hR1 : r.v.op.length ≤ 256 ∧ r.t.length ≤ 65536 := by
    unfold rightR at hR
    rw [Bool.and_eq_true] at hR
    exact ⟨plain_le (v := r.v.data) hR.1, of_decide_eq_true hR.2⟩
  clear hR
  unfold Ra.val Ra.cells at *
  go_enter Try.func12, Try.ntmps12
  go_upto_region 1 with fail
  generalize hw1 : w.alloc _ = w1 at b0 R0 h1 ⊢
  have n1 : w1.heap.size = w.heap.size + 1 := by rw [← hw1]; simp
  clear hw1
  have C0 := (R0.2 0 _ rfl).1
  have C1 := (R0.2 1 _ rfl).1
  have C2 := (R0.2 2 _ rfl).1
  have C3 := (R0.2 3 _ rfl).1
  have C4 := (R0.2 4 _ rfl).1
  have C5 := (R0.2 5 _ rfl).1
  have C6 := (R0.2 6 _ rfl).1
  have C7 := (R0.2 7 _ rfl).1
  have C8 := (R0.2 8 _ rfl).1
  go_wp2_with fail
  refine (hrt _).mono ?_
  rintro e w2 ⟨rfl, hb2⟩
  replace b0 := below_step b0 hb2
  have h2 := h1.below hb2
  have R2 := R0.below hb2
  clear hrt h1 C0 C1 C2 C3 C4 C5 C6 C7 C8 R0
  have hz2 := R2.1
  have D : ∀ {W}, Below w2.heap.size w2 W → Row W w.heap.size [.int .i64 r.er, .int .i64 r.pl, .int .i64 r.v.c, .int .i64 r.v.r, .slice r.v.A r.v.op.length r.v.cap, .int .i64 r.tr, .int .i64 r.us, .bool r.fd, .slice r.tA r.t.length r.tc] := fun hb => R2.below hb
  have b3 := below_alloc w2 (.cells #[.slice none 0 0] 54)
  have W3 := Wt.new w2 54
  go_upto_region 4 with fail
  generalize hw3 : w2.alloc _ = w3 at b3 W3 ⊢
  have n3 : w3.heap.size = w2.heap.size + 1 := by rw [← hw3]; simp
  clear hw3
  have C0 := ((D b3).2 0 _ rfl).1
  have C1 := ((D b3).2 1 _ rfl).1
  have r4 := ns_box w3 [r.er, r.pl] 2
  have b4 := below_alloc w3 (.cells #[.int .i64 r.er, .int .i64 r.pl] 2)
  have W4 := W3.on b4
  have a4 : ApaW w2.heap.size (.slice none 0 0) (some ⟨w3.heap.size, 0, none⟩) := ApaW.new W3 (fun ad ha => by cases ha; exact Nat.le_refl _)
  rw [n3] at r4 a4
  go_wp2_with fail
  refine (nums_n W4 2 rfl r4 a4 (by simp)).mono ?_
  rintro e w5 ⟨_, v5, rfl, W5, T5⟩
  have b5 := below_step b3 b4
  replace b5 := b5.trans (T5.below W4 (Nat.le_refl _))
  clear W3 W4 r4 a4 b4 b3 T5 C0 C1
  obtain ⟨l5, e5, z5⟩ : ∃ l5, l5 = nsB [r.er, r.pl] ∧ l5.length ≤ 16 := ⟨_, rfl, by rw [nsB_len]; simp⟩
  rw [List.nil_append, ← e5] at W5
  replace e5 := hid e5
  -- the value
  have C2 := ((D b5).2 2 _ rfl).1
  have C3 := ((D b5).2 3 _ rfl).1
  have C4 := ((D b5).2 4 _ rfl).1
  go_wp2_with fail
  refine (value_any W5 r.v (fun v' W hT => h2.v.below (b5.trans (hT.below W5 (Nat.le_refl _)))) (by omega) h2.vc (by omega)).mono ?_
  rintro e w6 ⟨_, v6, rfl, W6, T6⟩
  have b6 := b5.trans (T6.below W5 (Nat.le_refl _))
  clear W5 T6 b5 C2 C3 C4
  obtain ⟨l6, e6, z6⟩ : ∃ l6, l6 = l5 ++ putV r.v.data ∧ l6.length ≤ 1000 := ⟨_, rfl, by rw [List.length_append, putV_len]; simp only [En.data]; omega⟩
  rw [← e6] at W6
  replace e6 := hid e6
  -- trap and gas
  have C5 := ((D b6).2 5 _ rfl).1
  have C6 := ((D b6).2 6 _ rfl).1
  have r7 := ns_box w6 [r.tr, r.us] 2
  have b7 := below_alloc w6 (.cells #[.int .i64 r.tr, .int .i64 r.us] 2)
  have W7 := W6.on b7
  have a7 : ApaW w2.heap.size v6 (some ⟨w6.heap.size, 0, none⟩) := ApaW.new W6 (fun ad ha => by cases ha; exact Nat.le_refl _)
  go_wp2_with fail
  refine (nums_n W7 2 rfl r7 a7 (by omega)).mono ?_
  rintro e w8 ⟨_, v8, rfl, W8, T8⟩
  have b8 := (below_step b6 b7).trans (T8.below W7 (Nat.le_refl _))
  clear r7 a7 b7 W7 T8 W6 b6 C5 C6
  obtain ⟨l8, e8, z8⟩ : ∃ l8, l8 = l6 ++ nsB [r.tr, r.us] ∧ l8.length ≤ 2000 := ⟨_, rfl, by rw [List.length_append, nsB_len]; simp; omega⟩
  rw [← e8] at W8
  replace e8 := hid e8
  -- found
  go_upto_region 7 with fail
  have bcur := (Below.refl w8.heap.size w8).drew
  have C0 := W8.cell
  have C7 := ((D b8).2 7 _ rfl).1
  refine wp_region_noPanic ?_
  refine wp_region_held_drew (S := (fun W => Wt 5 W w2.heap.size v8 l8 ∨ True)) (by kernel_rfl) ?_ (fun hHeld => ?_)
  · exact Or.inr trivial
  refine wpAnyH_take (i := 0) (oi := ?oi1) (v := ?v1) ?hi1 (by kernel_rfl) (by kernel_rfl) (by kernel_rfl) ?hQ1 ?hy1 (by assumption) ?hrest1
  case hi1 => (simp only [List.getElem?_toArray, List.getElem?_cons_zero]; try rfl)
  case hQ1 => exact fun _ _ _ h => h
  case hy1 =>
    refine Or.inl ⟨by rfl, ?_⟩
    (intro wq hSw; (try dsimp only at hSw); go_simp; try with_reducible rfl)
  (try simp only [Act.put, List.setIfInBounds_toArray, List.set_cons_zero, List.set_cons_succ])
  refine wpAnyH_take (i := 1) (oi := ?oi2) (v := ?v2) ?hi2 (by kernel_rfl) (by kernel_rfl) (by kernel_rfl) ?hQ2 ?hy2 (by assumption) ?hrest2
  case hi2 => (simp only [List.getElem?_toArray, List.getElem?_cons_succ, List.getElem?_cons_zero]; try rfl)
  case hQ2 => exact fun _ _ _ h => h
  case hy2 =>
    refine Or.inl ⟨by rfl, ?_⟩
    (intro wq hSw; (try dsimp only at hSw); go_simp; try with_reducible rfl)
  (try simp only [Act.put, List.setIfInBounds_toArray, List.set_cons_zero, List.set_cons_succ])
  refine wpAnyH_take (i := 2) (oi := ?oi3) (v := ?v3) ?hi3 (by kernel_rfl) (by kernel_rfl) (by kernel_rfl) ?hQ3 ?hy3 (by assumption) ?hrest3
  case hi3 => (simp only [List.getElem?_toArray, List.getElem?_cons_succ, List.getElem?_cons_zero]; try rfl)
  case hQ3 => exact fun _ _ _ h => h
  case hy3 =>
    refine Or.inl ⟨by rfl, ?_⟩
    (intro wq hSw; (try dsimp only at hSw); go_simp; try with_reducible rfl)
  (try simp only [Act.put, List.setIfInBounds_toArray, List.set_cons_zero, List.set_cons_succ])
  refine wpAnyH_take (i := 3) (oi := ?oi4) (v := ?v4) ?hi4 (by kernel_rfl) (by kernel_rfl) (by kernel_rfl) ?hQ4 ?hy4 (by assumption) ?hrest4
  case hi4 => (simp only [List.getElem?_toArray, List.getElem?_cons_succ, List.getElem?_cons_zero]; try rfl)
  case hQ4 => exact fun _ _ _ h => h
  case hy4 =>
    refine Or.inl ⟨by rfl, ?_⟩
    (intro wq hSw; (try dsimp only at hSw); go_simp; try with_reducible rfl)
  (try simp only [Act.put, List.setIfInBounds_toArray, List.set_cons_zero, List.set_cons_succ])
  refine wpAnyH_take (i := 5) (oi := ?oi5) (v := ?v5) ?hi5 (by kernel_rfl) (by kernel_rfl) (by kernel_rfl) ?hQ5 ?hy5 (by assumption) ?hrest5
  case hi5 => (simp only [List.getElem?_toArray, List.getElem?_cons_succ, List.getElem?_cons_zero]; try rfl)
  case hQ5 => exact fun _ _ _ h => h
  case hy5 =>
    refine Or.inl ⟨by rfl, ?_⟩
    (intro wq hSw; (try dsimp only at hSw); go_simp; try with_reducible rfl)
  (try simp only [Act.put, List.setIfInBounds_toArray, List.set_cons_zero, List.set_cons_succ])
  refine wpAnyH_ready (rs := [4, 6]) (by kernel_rfl) (by simp) ?_
  refine AllReadyH.cons (o := ?oi6) ?hi6 (fun K hK => ?hstep6) ?hmore6
  case hi6 => (simp only [List.getElem?_toArray, List.getElem?_cons_succ, List.getElem?_cons_zero]; try rfl)
  case hstep6 =>
    go_simp
    (skip)
    refine hK.out _ _ ?_ (fun hHeld => ?_)
    · exact Or.inr trivial
    clear hK K
    (try simp only [Act.put, List.setIfInBounds_toArray, List.set_cons_zero, List.set_cons_succ])
    refine wpAnyH_ready (rs := [6]) (by kernel_rfl) (by simp) ?_
    refine AllReadyH.cons (o := ?oi7) ?hi7 (fun K hK => ?hstep7) AllReadyH.nil
    case hi7 => (simp only [List.getElem?_toArray, List.getElem?_cons_succ, List.getElem?_cons_zero]; try rfl)
    go_simp
    (skip)
    refine hK.out _ _ ?_ (fun hHeld => ?_)
    · exact Or.inr trivial
    clear hK K
    (try simp only [Act.put, List.setIfInBounds_toArray, List.set_cons_zero, List.set_cons_succ])
    refine wpAnyH_ready (rs := [7]) (by kernel_rfl) (by simp) ?_
    refine AllReadyH.cons (o := ?oi8) ?hi8 (fun K hK => ?hstep8) AllReadyH.nil
    case hi8 => (simp only [List.getElem?_toArray, List.getElem?_cons_succ, List.getElem?_cons_zero]; try rfl)
    go_simp
    (refine (putbool_any r.fd _).mono ?_; rintro e wx ⟨vx, rfl, ownx, hbx⟩; have bcur := below_step bcur hbx; have hWx := W8.on bcur; have C1 := hWx.cell; have F1 := hWx.froz)
    refine hK.out _ _ ?_ (fun hHeld => ?_)
    · exact Or.inr trivial
    clear hK K
    (try simp only [Act.put, List.setIfInBounds_toArray, List.set_cons_zero, List.set_cons_succ])
    refine wpAnyH_ready (rs := [8]) (by kernel_rfl) (by simp) ?_
    refine AllReadyH.cons (o := ?oi9) ?hi9 (fun K hK => ?hstep9) AllReadyH.nil
    case hi9 => (simp only [List.getElem?_toArray, List.getElem?_cons_succ, List.getElem?_cons_zero]; try rfl)
    (obtain ⟨Ax, cx, rfl, _, _, _⟩ := own_shape ownx; refine oper_app2 rfl (.tmp 35) (.tmp 38) 22 rfl (w2.heap.size + 1) 5 Try.underlying22 infoB rfl (by decide) v8 l8.length _ rfl hWx.own Ax 1 cx ([tb r.fd].map byt) rfl (by simp) (own_rd ownx) (byt_one _) (by omega) (by omega) (by have := hWx.lt; omega) ?_; intro v9 w9 own9 hg9 hat9; obtain ⟨A9, c9, rfl, _⟩ := own_shape own9; obtain ⟨hW9, hT9⟩ := hWx.app (m := [tb r.fd]) hg9 hat9 own9; obtain ⟨C9, F9⟩ := hWx.mid hg9)
    refine hK.out _ _ ?_ (fun hHeld => ?_)
    · exact Or.inr trivial
    clear hK K
    (try simp only [Act.put, List.setIfInBounds_toArray, List.set_cons_zero, List.set_cons_succ])
    refine wpAnyH_take (i := 9) (oi := ?oi10) (v := ?v10) ?hi10 (by kernel_rfl) (by kernel_rfl) (by kernel_rfl) ?hQ10 ?hy10 (by assumption) ?hrest10
    case hi10 => (simp only [List.getElem?_toArray, List.getElem?_cons_succ, List.getElem?_cons_zero]; try rfl)
    case hQ10 => exact fun _ _ _ h => h
    case hy10 =>
      refine Or.inl ⟨by rfl, ?_⟩
      (intro wq hSw; (try dsimp only at hSw); go_simp; try with_reducible rfl)
    (try simp only [Act.put, List.setIfInBounds_toArray, List.set_cons_zero, List.set_cons_succ])
    refine wpAnyH_take (i := 10) (oi := ?oi11) (v := ?v11) ?hi11 (by kernel_rfl) (by kernel_rfl) (by kernel_rfl) ?hQ11 ?hy11 (by assumption) ?hrest11
    case hi11 => (simp only [List.getElem?_toArray, List.getElem?_cons_succ, List.getElem?_cons_zero]; try rfl)
    case hQ11 => exact fun _ _ _ h => h
    case hy11 =>
      refine Or.inl ⟨by rfl, ?_⟩
      (intro wq hSw; (try dsimp only at hSw); go_simp; try with_reducible rfl)
    (try simp only [Act.put, List.setIfInBounds_toArray, List.set_cons_zero, List.set_cons_succ])
    refine wpAnyH_ready (rs := [11]) (by kernel_rfl) (by simp) ?_
    refine AllReadyH.cons (o := ?oi12) ?hi12 (fun K hK => ?hstep12) AllReadyH.nil
    case hi12 => (simp only [List.getElem?_toArray, List.getElem?_cons_succ, List.getElem?_cons_zero]; try rfl)
    go_simp
    (skip)
    refine hK.out _ _ ?_ (fun hHeld => ?_)
    · exact Or.inr trivial
    clear hK K
    (try simp only [Act.put, List.setIfInBounds_toArray, List.set_cons_zero, List.set_cons_succ])
    refine wpAnyH_done (by kernel_rfl) ?_ _
    refine NoPanic.normal ?_
    (clear C0 C1 F1 C9 F9 C7; generalize World.setCell _ _ _ = w10 at hW9 hT9 ⊢; have b10 := (below_step b8 bcur).trans (hT9.below hWx (Nat.le_refl _)); obtain ⟨l10, e10, z10⟩ : ∃ l10, l10 = l8 ++ [tb r.fd] ∧ l10.length ≤ 3000 := ⟨_, rfl, by rw [List.length_append]; simp; omega⟩; rw [← e10] at hW9; replace e10 := hid e10; clear hWx hg9 hat9 own9 ownx hHeld; have C8 := ((D b10).2 8 _ rfl).1; have r16 := row1_box hW9 (B := r.tA) (s := r.t) rfl 22 h2.tc (fun v' W hT => h2.t.below (b10.trans (hT.below hW9 (Nat.le_refl _)))); have b16 := below_alloc w10 (.cells #[.slice r.tA r.t.length r.tc] 22); have W16 := hW9.on b16; replace b16 := below_step b10 b16; (go_wp2_with fail); refine (texts_n W16 1 rfl r16 (by intro s hs; rw [List.mem_singleton.1 hs]; omega) (by omega) (by omega)).mono ?_; rintro e w17 ⟨_, v17, rfl, W17, T17⟩; have b17 := b16.trans (T17.below W16 (Nat.le_refl _)); have e17 : l10 ++ txB [r.t] = putR r.data := (by rw [e10.out, e8.out, e6.out, e5.out]; simp [putR, nsB, txB, Ra.data]); rw [e17] at W17; have C17 := W17.cell; have hO := W17.own; (go_wp2_with fail); go_ret2; exact ⟨_, rfl, own_mono hO (by omega), (b0.trans (b17.mono b0.size))⟩)
  refine AllReadyH.cons (o := ?oi13) ?hi13 (fun K hK => ?hstep13) ?hmore13
  case hi13 => (simp only [List.getElem?_toArray, List.getElem?_cons_succ, List.getElem?_cons_zero]; try rfl)
  case hstep13 =>
    go_simp
    (skip)
    refine hK.out _ _ ?_ (fun hHeld => ?_)
    · exact Or.inr trivial
    clear hK K
    (try simp only [Act.put, List.setIfInBounds_toArray, List.set_cons_zero, List.set_cons_succ])
    refine wpAnyH_ready (rs := [4, 7]) (by kernel_rfl) (by simp) ?_
    refine AllReadyH.cons (o := ?oi14) ?hi14 (fun K hK => ?hstep14) ?hmore14
    case hi14 => (simp only [List.getElem?_toArray, List.getElem?_cons_succ, List.getElem?_cons_zero]; try rfl)
    case hstep14 =>
      go_simp
      (skip)
      refine hK.out _ _ ?_ (fun hHeld => ?_)
      · exact Or.inr trivial
      clear hK K
      (try simp only [Act.put, List.setIfInBounds_toArray, List.set_cons_zero, List.set_cons_succ])
      refine wpAnyH_ready (rs := [7]) (by kernel_rfl) (by simp) ?_
      refine AllReadyH.cons (o := ?oi15) ?hi15 (fun K hK => ?hstep15) AllReadyH.nil
      case hi15 => (simp only [List.getElem?_toArray, List.getElem?_cons_succ, List.getElem?_cons_zero]; try rfl)
      go_simp
      (refine (putbool_any r.fd _).mono ?_; rintro e wx ⟨vx, rfl, ownx, hbx⟩; have bcur := below_step bcur hbx; have hWx := W8.on bcur; have C1 := hWx.cell; have F1 := hWx.froz)
      refine hK.out _ _ ?_ (fun hHeld => ?_)
      · exact Or.inr trivial
      clear hK K
      (try simp only [Act.put, List.setIfInBounds_toArray, List.set_cons_zero, List.set_cons_succ])
      refine wpAnyH_ready (rs := [8]) (by kernel_rfl) (by simp) ?_
      refine AllReadyH.cons (o := ?oi16) ?hi16 (fun K hK => ?hstep16) AllReadyH.nil
      case hi16 => (simp only [List.getElem?_toArray, List.getElem?_cons_succ, List.getElem?_cons_zero]; try rfl)
      (obtain ⟨Ax, cx, rfl, _, _, _⟩ := own_shape ownx; refine oper_app2 rfl (.tmp 35) (.tmp 38) 22 rfl (w2.heap.size + 1) 5 Try.underlying22 infoB rfl (by decide) v8 l8.length _ rfl hWx.own Ax 1 cx ([tb r.fd].map byt) rfl (by simp) (own_rd ownx) (byt_one _) (by omega) (by omega) (by have := hWx.lt; omega) ?_; intro v9 w9 own9 hg9 hat9; obtain ⟨A9, c9, rfl, _⟩ := own_shape own9; obtain ⟨hW9, hT9⟩ := hWx.app (m := [tb r.fd]) hg9 hat9 own9; obtain ⟨C9, F9⟩ := hWx.mid hg9)
      refine hK.out _ _ ?_ (fun hHeld => ?_)
      · exact Or.inr trivial
      clear hK K
      (try simp only [Act.put, List.setIfInBounds_toArray, List.set_cons_zero, List.set_cons_succ])
      refine wpAnyH_take (i := 9) (oi := ?oi17) (v := ?v17) ?hi17 (by kernel_rfl) (by kernel_rfl) (by kernel_rfl) ?hQ17 ?hy17 (by assumption) ?hrest17
      case hi17 => (simp only [List.getElem?_toArray, List.getElem?_cons_succ, List.getElem?_cons_zero]; try rfl)
      case hQ17 => exact fun _ _ _ h => h
      case hy17 =>
        refine Or.inl ⟨by rfl, ?_⟩
        (intro wq hSw; (try dsimp only at hSw); go_simp; try with_reducible rfl)
      (try simp only [Act.put, List.setIfInBounds_toArray, List.set_cons_zero, List.set_cons_succ])
      refine wpAnyH_take (i := 10) (oi := ?oi18) (v := ?v18) ?hi18 (by kernel_rfl) (by kernel_rfl) (by kernel_rfl) ?hQ18 ?hy18 (by assumption) ?hrest18
      case hi18 => (simp only [List.getElem?_toArray, List.getElem?_cons_succ, List.getElem?_cons_zero]; try rfl)
      case hQ18 => exact fun _ _ _ h => h
      case hy18 =>
        refine Or.inl ⟨by rfl, ?_⟩
        (intro wq hSw; (try dsimp only at hSw); go_simp; try with_reducible rfl)
      (try simp only [Act.put, List.setIfInBounds_toArray, List.set_cons_zero, List.set_cons_succ])
      refine wpAnyH_ready (rs := [11]) (by kernel_rfl) (by simp) ?_
      refine AllReadyH.cons (o := ?oi19) ?hi19 (fun K hK => ?hstep19) AllReadyH.nil
      case hi19 => (simp only [List.getElem?_toArray, List.getElem?_cons_succ, List.getElem?_cons_zero]; try rfl)
      go_simp
      (skip)
      refine hK.out _ _ ?_ (fun hHeld => ?_)
      · exact Or.inr trivial
      clear hK K
      (try simp only [Act.put, List.setIfInBounds_toArray, List.set_cons_zero, List.set_cons_succ])
      refine wpAnyH_done (by kernel_rfl) ?_ _
      refine NoPanic.normal ?_
      (clear C0 C1 F1 C9 F9 C7; generalize World.setCell _ _ _ = w10 at hW9 hT9 ⊢; have b10 := (below_step b8 bcur).trans (hT9.below hWx (Nat.le_refl _)); obtain ⟨l10, e10, z10⟩ : ∃ l10, l10 = l8 ++ [tb r.fd] ∧ l10.length ≤ 3000 := ⟨_, rfl, by rw [List.length_append]; simp; omega⟩; rw [← e10] at hW9; replace e10 := hid e10; clear hWx hg9 hat9 own9 ownx hHeld; have C8 := ((D b10).2 8 _ rfl).1; have r16 := row1_box hW9 (B := r.tA) (s := r.t) rfl 22 h2.tc (fun v' W hT => h2.t.below (b10.trans (hT.below hW9 (Nat.le_refl _)))); have b16 := below_alloc w10 (.cells #[.slice r.tA r.t.length r.tc] 22); have W16 := hW9.on b16; replace b16 := below_step b10 b16; (go_wp2_with fail); refine (texts_n W16 1 rfl r16 (by intro s hs; rw [List.mem_singleton.1 hs]; omega) (by omega) (by omega)).mono ?_; rintro e w17 ⟨_, v17, rfl, W17, T17⟩; have b17 := b16.trans (T17.below W16 (Nat.le_refl _)); have e17 : l10 ++ txB [r.t] = putR r.data := (by rw [e10.out, e8.out, e6.out, e5.out]; simp [putR, nsB, txB, Ra.data]); rw [e17] at W17; have C17 := W17.cell; have hO := W17.own; (go_wp2_with fail); go_ret2; exact ⟨_, rfl, own_mono hO (by omega), (b0.trans (b17.mono b0.size))⟩)
    refine AllReadyH.cons (o := ?oi20) ?hi20 (fun K hK => ?hstep20) ?hmore20
    case hi20 => (simp only [List.getElem?_toArray, List.getElem?_cons_succ, List.getElem?_cons_zero]; try rfl)
    case hstep20 =>
      go_simp
      (refine (putbool_any r.fd _).mono ?_; rintro e wx ⟨vx, rfl, ownx, hbx⟩; have bcur := below_step bcur hbx; have hWx := W8.on bcur; have C1 := hWx.cell; have F1 := hWx.froz)
      refine hK.out _ _ ?_ (fun hHeld => ?_)
      · exact Or.inr trivial
      clear hK K
      (try simp only [Act.put, List.setIfInBounds_toArray, List.set_cons_zero, List.set_cons_succ])
      refine wpAnyH_ready (rs := [4]) (by kernel_rfl) (by simp) ?_
      refine AllReadyH.cons (o := ?oi21) ?hi21 (fun K hK => ?hstep21) AllReadyH.nil
      case hi21 => (simp only [List.getElem?_toArray, List.getElem?_cons_succ, List.getElem?_cons_zero]; try rfl)
      go_simp
      (skip)
      refine hK.out _ _ ?_ (fun hHeld => ?_)
      · exact Or.inr trivial
      clear hK K
      (try simp only [Act.put, List.setIfInBounds_toArray, List.set_cons_zero, List.set_cons_succ])
      refine wpAnyH_ready (rs := [8]) (by kernel_rfl) (by simp) ?_
      refine AllReadyH.cons (o := ?oi22) ?hi22 (fun K hK => ?hstep22) AllReadyH.nil
      case hi22 => (simp only [List.getElem?_toArray, List.getElem?_cons_succ, List.getElem?_cons_zero]; try rfl)
      (obtain ⟨Ax, cx, rfl, _, _, _⟩ := own_shape ownx; refine oper_app2 rfl (.tmp 35) (.tmp 38) 22 rfl (w2.heap.size + 1) 5 Try.underlying22 infoB rfl (by decide) v8 l8.length _ rfl hWx.own Ax 1 cx ([tb r.fd].map byt) rfl (by simp) (own_rd ownx) (byt_one _) (by omega) (by omega) (by have := hWx.lt; omega) ?_; intro v9 w9 own9 hg9 hat9; obtain ⟨A9, c9, rfl, _⟩ := own_shape own9; obtain ⟨hW9, hT9⟩ := hWx.app (m := [tb r.fd]) hg9 hat9 own9; obtain ⟨C9, F9⟩ := hWx.mid hg9)
      refine hK.out _ _ ?_ (fun hHeld => ?_)
      · exact Or.inr trivial
      clear hK K
      (try simp only [Act.put, List.setIfInBounds_toArray, List.set_cons_zero, List.set_cons_succ])
      refine wpAnyH_take (i := 9) (oi := ?oi23) (v := ?v23) ?hi23 (by kernel_rfl) (by kernel_rfl) (by kernel_rfl) ?hQ23 ?hy23 (by assumption) ?hrest23
      case hi23 => (simp only [List.getElem?_toArray, List.getElem?_cons_succ, List.getElem?_cons_zero]; try rfl)
      case hQ23 => exact fun _ _ _ h => h
      case hy23 =>
        refine Or.inl ⟨by rfl, ?_⟩
        (intro wq hSw; (try dsimp only at hSw); go_simp; try with_reducible rfl)
      (try simp only [Act.put, List.setIfInBounds_toArray, List.set_cons_zero, List.set_cons_succ])
      refine wpAnyH_take (i := 10) (oi := ?oi24) (v := ?v24) ?hi24 (by kernel_rfl) (by kernel_rfl) (by kernel_rfl) ?hQ24 ?hy24 (by assumption) ?hrest24
      case hi24 => (simp only [List.getElem?_toArray, List.getElem?_cons_succ, List.getElem?_cons_zero]; try rfl)
      case hQ24 => exact fun _ _ _ h => h
      case hy24 =>
        refine Or.inl ⟨by rfl, ?_⟩
        (intro wq hSw; (try dsimp only at hSw); go_simp; try with_reducible rfl)
      (try simp only [Act.put, List.setIfInBounds_toArray, List.set_cons_zero, List.set_cons_succ])
      refine wpAnyH_ready (rs := [11]) (by kernel_rfl) (by simp) ?_
      refine AllReadyH.cons (o := ?oi25) ?hi25 (fun K hK => ?hstep25) AllReadyH.nil
      case hi25 => (simp only [List.getElem?_toArray, List.getElem?_cons_succ, List.getElem?_cons_zero]; try rfl)
      go_simp
      (skip)
      refine hK.out _ _ ?_ (fun hHeld => ?_)
      · exact Or.inr trivial
      clear hK K
      (try simp only [Act.put, List.setIfInBounds_toArray, List.set_cons_zero, List.set_cons_succ])
      refine wpAnyH_done (by kernel_rfl) ?_ _
      refine NoPanic.normal ?_
      (clear C0 C1 F1 C9 F9 C7; generalize World.setCell _ _ _ = w10 at hW9 hT9 ⊢; have b10 := (below_step b8 bcur).trans (hT9.below hWx (Nat.le_refl _)); obtain ⟨l10, e10, z10⟩ : ∃ l10, l10 = l8 ++ [tb r.fd] ∧ l10.length ≤ 3000 := ⟨_, rfl, by rw [List.length_append]; simp; omega⟩; rw [← e10] at hW9; replace e10 := hid e10; clear hWx hg9 hat9 own9 ownx hHeld; have C8 := ((D b10).2 8 _ rfl).1; have r16 := row1_box hW9 (B := r.tA) (s := r.t) rfl 22 h2.tc (fun v' W hT => h2.t.below (b10.trans (hT.below hW9 (Nat.le_refl _)))); have b16 := below_alloc w10 (.cells #[.slice r.tA r.t.length r.tc] 22); have W16 := hW9.on b16; replace b16 := below_step b10 b16; (go_wp2_with fail); refine (texts_n W16 1 rfl r16 (by intro s hs; rw [List.mem_singleton.1 hs]; omega) (by omega) (by omega)).mono ?_; rintro e w17 ⟨_, v17, rfl, W17, T17⟩; have b17 := b16.trans (T17.below W16 (Nat.le_refl _)); have e17 : l10 ++ txB [r.t] = putR r.data := (by rw [e10.out, e8.out, e6.out, e5.out]; simp [putR, nsB, txB, Ra.data]); rw [e17] at W17; have C17 := W17.cell; have hO := W17.own; (go_wp2_with fail); go_ret2; exact ⟨_, rfl, own_mono hO (by omega), (b0.trans (b17.mono b0.size))⟩)
    exact AllReadyH.nil
  exact AllReadyH.nil
end Go.Proofs.Ytoceipdkmafagaa
