import Derived.Test.YtoceipdkmafagaaOpV
import Derived.Test.YtoceipdkmafagaaOpY
import Derived.Test.YtoceipdkmafagaaOpO
/-! the ref's op: the reply of bytes -/
namespace Go.Proofs.Ytoceipdkmafagaa
open Go.RowKit Go.Cov
set_option maxRecDepth 100000 in
set_option maxHeartbeats 12800000 in
theorem rgetreply_any {A : Option Addr} {c : Nat} {l : List UInt8} {w : World} (h : Rd w A (l.map byt)) (hc : l.length ≤ c) (hl : l.length ≤ 140737488351236) :
    Calls Try.prog 21 #[.slice A l.length c] w fun e w' => ∃ r : Ra, e = .returned (.tuple #[r.val, .int .i64 (readR l).2]) ∧ r.data = (readR l).1 ∧ RaRd w' r ∧ Below w.heap.size w w' := by
  have hAl := rd_lt h
  have b1 := below_alloc w (.cells #[.int .i64 0, .int .i64 0, .int .i64 0, .int .i64 0, .slice none 0 0, .int .i64 0, .int .i64 0, .bool false, .slice none 0 0] 34)
  have R1 := Row.new w [.int .i64 0, .int .i64 0, .int .i64 0, .int .i64 0, .slice none 0 0, .int .i64 0, .int .i64 0, .bool false, .slice none 0 0] 34
  go_enter Try.func21, Try.ntmps21
  go_upto_region 1 with fail
  generalize hw1 : w.alloc _ = w1 at b1 R1 ⊢
  have n1 : w1.heap.size = w.heap.size + 1 := by rw [← hw1]; simp
  clear hw1
  have b2 := below_alloc w1 (.cells #[.slice A l.length c, .int .i64 0, .int .i64 0] 76)
  have R2 := Row.new w1 [.slice A l.length c, .int .i64 0, .int .i64 0] 76
  have R1' := R1.below b2
  go_upto_region 2 with fail
  generalize hw2 : w1.alloc _ = w2 at b2 R2 R1' ⊢
  have n2 : w2.heap.size = w.heap.size + 2 := by rw [← hw2]; simp [n1]
  clear hw2
  have b12 := below_step b1 b2
  rw [n1] at R2
  clear R1 b1 b2 n1
  have b3 := below_alloc w2 (.cells #[.int .i64 0, .int .i64 0, .int .i64 0, .int .i64 0, .slice none 0 0, .int .i64 0, .int .i64 0, .bool false, .slice none 0 0] 34)
  have R3 := Row.new w2 [.int .i64 0, .int .i64 0, .int .i64 0, .int .i64 0, .slice none 0 0, .int .i64 0, .int .i64 0, .bool false, .slice none 0 0] 34
  go_upto_region 3 with fail
  generalize hw3 : w2.alloc _ = w3 at b3 R3 ⊢
  clear hw3
  rw [n2] at R3
  have b13 := below_step b12 b3
  have hR : Rh w w3 w.heap.size (w.heap.size + 2) (w.heap.size + 1) [.int .i64 0, .int .i64 0, .int .i64 0, .int .i64 0, .slice none 0 0, .int .i64 0, .int .i64 0, .bool false, .slice none 0 0] [.int .i64 0, .int .i64 0, .int .i64 0, .int .i64 0, .slice none 0 0, .int .i64 0, .int .i64 0, .bool false, .slice none 0 0] A c l (0, 0) (fun _ => True) :=
    ⟨R1'.below b3, R3, ⟨R2.below b3, h.below b13, fun hn ad ha => by have := hAl hn ad ha; omega, hc, hl⟩, trivial, fun _ _ _ _ _ _ _ => trivial, by omega, hAl, b13⟩
  clear R1' R2 R3 b3 b12 n2 b13
  -- number 1
  go_wp2_with fail
  refine (rdnum_any hR.rr).mono ?_
  rintro e w3 ⟨rfl, h3, G3⟩
  replace hR := hR.next h3 G3
  obtain ⟨e1, s1, he1⟩ : ∃ e s, nx numR 0 l ((0 : Int), (0 : Int)) = (e, s) := ⟨_, _, rfl⟩
  rw [he1] at hR ⊢
  go_upto_region 4 with fail
  clear h3 G3
  -- number 2
  go_wp2_with fail
  refine (rdnum_any hR.rr).mono ?_
  rintro e w3 ⟨rfl, h3, G3⟩
  replace hR := hR.next h3 G3
  obtain ⟨e2, s2, he2⟩ : ∃ e s, nx numR 0 l s1 = (e, s) := ⟨_, _, rfl⟩
  rw [he2] at hR ⊢
  go_upto_region 5 with fail
  clear h3 G3
  -- value 3
  go_wp2_with fail
  refine (rdvalue_any hR.rr).mono ?_
  rintro e w3 ⟨x3, rfl, hx3, o3, h3, G3⟩
  have z3 := hR.r2.1
  replace hR := hR.next h3 G3
  obtain ⟨e3, s3, he3⟩ : ∃ e s, getV l s2 = (e, s) := ⟨_, _, rfl⟩
  rw [he3] at hR hx3
  obtain ⟨A3, c3, hsl, hc3, hm3, _⟩ := own_shape o3
  injection hsl with hs1 hs2 hs3
  rw [← hs3] at hc3 hm3
  clear hs1 hs2 hs3
  replace hx3 := hid hx3
  replace hR := hR.more (own_mono o3 z3) (fun k W1 W2 hk hG _ hx => keep_ownh hk hG hx)
  have C0 := hR.c2 2 _ rfl
  have F0 := hR.f2 2 _ rfl
  have C1 := hR.c2 3 _ rfl
  have F1 := hR.f2 3 _ rfl
  have C2 := hR.c2 4 _ rfl
  have F2 := hR.f2 4 _ rfl
  replace hR := ((hR.set 2 (by simp) (.int .i64 x3.c)).set 3 (by simp) (.int .i64 x3.r)).set 4 (by simp) (.slice x3.A x3.op.length x3.cap)
  go_upto_region 6 with fail
  clear C0 F0 C1 F1 C2 F2 h3 G3 o3 z3
  generalize World.setCell _ _ _ = w4 at hR ⊢
  simp only [List.set_cons_zero, List.set_cons_succ] at hR
  -- number 4
  go_wp2_with fail
  refine (rdnum_any hR.rr).mono ?_
  rintro e w3 ⟨rfl, h3, G3⟩
  replace hR := hR.next h3 G3
  obtain ⟨e4, s4, he4⟩ : ∃ e s, nx numR 0 l s3 = (e, s) := ⟨_, _, rfl⟩
  rw [he4] at hR ⊢
  go_upto_region 7 with fail
  clear h3 G3
  -- number 5
  go_wp2_with fail
  refine (rdnum_any hR.rr).mono ?_
  rintro e w3 ⟨rfl, h3, G3⟩
  replace hR := hR.next h3 G3
  obtain ⟨e5, s5, he5⟩ : ∃ e s, nx numR 0 l s4 = (e, s) := ⟨_, _, rfl⟩
  rw [he5] at hR ⊢
  have C := hR.c2 6 _ rfl
  have F := hR.f2 6 _ rfl
  replace hR := hR.set 6 (by simp) (.int .i64 e5)
  go_upto_region 8 with fail
  clear C F h3 G3
  generalize World.setCell _ _ _ = w4 at hR ⊢
  simp only [List.set_cons_zero, List.set_cons_succ] at hR
  -- found
  obtain ⟨e6, s6, he6⟩ : ∃ e s, nx boolR false l s5 = (e, s) := ⟨_, _, rfl⟩
  go_cut [34] (fun s34 wx => s34 = .bool (decide (s5.2 = 0)) ∧ wx = w4)
  case first =>
    have C2 := (hR.rr.row.2 2 _ rfl).1
    go_wp2_with fail
    go_meet
    exact ⟨rfl, rfl⟩
  case rest =>
  obtain ⟨rfl, rfl⟩ := hcut
  go_upto_if 34 with fail
  go_cut [] (fun wx => Rh w wx w.heap.size (w.heap.size + 2) (w.heap.size + 1) [.int .i64 0, .int .i64 0, .int .i64 0, .int .i64 0, .slice none 0 0, .int .i64 0, .int .i64 0, .bool false, .slice none 0 0] [.int .i64 0, .int .i64 0, .int .i64 x3.c, .int .i64 x3.r, .slice x3.A x3.op.length x3.cap, .int .i64 0, .int .i64 e5, .bool e6, .slice none 0 0] A c l s6 (fun W => True ∧ W.ownsRow (w.heap.size + 2 + 1) 5 1 (.slice x3.A x3.op.length x3.cap) x3.op.length (x3.op.map byt)))
  case first =>
    obtain ⟨p5, r5⟩ := s5
    by_cases hz : r5 = 0
    · subst hz
      have hd : decide (((p5, (0 : Int)) : Int × Int).2 = 0) = true := rfl
      rw [nx_ok] at he6
      obtain ⟨p6, r6⟩ := s6
      have C1 := (hR.rr.row.2 1 _ rfl).1
      have KB := rbool_any hR.rr.rd hR.rr.cap hR.rr.len p5
      rw [he6] at KB
      replace KB := hid KB
      go_wp2_with fail
      refine KB.out.mono ?_
      rintro e wx ⟨rfl, rfl⟩
      have C := hR.c2 7 _ rfl
      have F := hR.f2 7 _ rfl
      have hR2 := hR.set 7 (by simp) (.bool e6)
      go_upto_region 11 with fail
      clear C F C1
      generalize World.setCell _ _ _ = w5 at hR2 ⊢
      simp only [List.set_cons_zero, List.set_cons_succ] at hR2
      have C := (hR2.rr.row.2 1 _ rfl).1
      have F := (hR2.rr.row.2 1 _ rfl).2
      have hR3 := hR2.next (hR2.rr.set1 p6) (Gro.set _ _ 1 _ _)
      go_upto_region 12 with fail
      clear C F
      generalize World.setCell _ _ _ = w6 at hR3 ⊢
      have C := (hR3.rr.row.2 2 _ rfl).1
      have F := (hR3.rr.row.2 2 _ rfl).2
      have hR4 := hR3.err r6
      go_wp2_with fail
      go_meet
      exact hR4
    · have hd : decide ((p5, r5).2 = 0) = false := decide_eq_false hz
      rw [nx, if_neg hz] at he6
      obtain ⟨h1, h2⟩ := Prod.mk.inj he6
      go_wp2_with fail
      go_meet
      rw [← h1, ← h2]
      exact hR
  case rest =>
  clear hR
  have hR := hcut
  clear hcut
  -- text 7
  go_wp2_with fail
  refine (rdtext_any hR.rr).mono ?_
  rintro e w3 ⟨v7, rfl, o3, h3, G3⟩
  have z3 := hR.r2.1
  replace hR := hR.next h3 G3
  obtain ⟨e7, s7, he7⟩ : ∃ e s, nx bytesR [] l s6 = (e, s) := ⟨_, _, rfl⟩
  rw [he7] at hR o3
  obtain ⟨A7, c7, rfl, hc7, hm7, _⟩ := own_shape o3
  replace hR := hR.more (own_mono o3 z3) (fun k W1 W2 hk hG _ hx => keep_ownh hk hG hx)
  have C := hR.c2 8 _ rfl
  have F := hR.f2 8 _ rfl
  replace hR := hR.set 8 (by simp) (.slice A7 e7.length c7)
  go_upto_region 14 with fail
  clear C F h3 G3 o3 z3
  generalize World.setCell _ _ _ = w4 at hR ⊢
  simp only [List.set_cons_zero, List.set_cons_succ] at hR
  have C := hR.c2 0 _ rfl
  have F := hR.f2 0 _ rfl
  replace hR := hR.set 0 (by simp) (.int .i64 e1)
  go_upto_region 15 with fail
  clear C F
  generalize World.setCell _ _ _ = w4 at hR ⊢
  simp only [List.set_cons_zero] at hR
  have C := hR.c2 1 _ rfl
  have F := hR.f2 1 _ rfl
  replace hR := hR.set 1 (by simp) (.int .i64 e2)
  go_upto_region 16 with fail
  clear C F
  generalize World.setCell _ _ _ = w4 at hR ⊢
  simp only [List.set_cons_zero, List.set_cons_succ] at hR
  have C := hR.c2 5 _ rfl
  have F := hR.f2 5 _ rfl
  replace hR := hR.set 5 (by simp) (.int .i64 e4)
  go_upto_region 17 with fail
  clear C F
  generalize World.setCell _ _ _ = w4 at hR ⊢
  simp only [List.set_cons_zero, List.set_cons_succ] at hR
  obtain ⟨r, ho⟩ : ∃ r : Ra, r = ⟨e1, e2, x3, e4, e5, e6, A7, c7, e7⟩ := ⟨_, rfl⟩
  have hOd : r.data = (e1, e2, e3, e4, e5, e6, e7) := by rw [ho, ← hx3.out]; rfl
  have hOv : r.val = .agg #[.int .i64 e1, .int .i64 e2, .int .i64 x3.c, .int .i64 x3.r, .slice x3.A x3.op.length x3.cap, .int .i64 e4, .int .i64 e5, .bool e6, .slice A7 e7.length c7] := by rw [ho]; rfl
  replace ho := hid ho
  replace hOv := hid hOv
  replace hOd := hid hOd
  have eG : Hid (getR2 l (0, 0) = (r.data, s7)) := by
    refine hid ?_
    rw [hOd.out]
    unfold getR2
    simp only [sq, he1, he2, he3, he4, he5, he6, he7]
  have hrd : Hid (readR l = (if s7.2 = 0 then (if s7.1 = l.length ∧ rightR r.data = true then (r.data, 0) else (zeroR, 151)) else (zeroR, s7.2))) := by
    refine hid ?_
    unfold readR whole
    rw [eG.out]
  clear eG
  have C2 := (hR.rr.row.2 2 _ rfl).1
  obtain ⟨p7, r7⟩ := s7
  dsimp only at hrd C2
  by_cases hz : r7 = 0
  case neg =>
    have jz : (r7 != 0) = true := by simp [hz]
    go_upto_region 18 with fail
    have bcur := (Below.refl w4.heap.size w4).drew
    have hRd := hR.on bcur
    refine wp_region_noPanic ?_
    refine wp_region_held_drew (S := (fun W => W.cell? ⟨w.heap.size + 1, 2, none⟩ = some (.int .i64 r7))) (by kernel_rfl) ?_ (fun hHeld => ?_)
    · exact C2
    refine wpAnyH_take (i := 0) (oi := ?oi1) (v := ?v1) ?hi1 (by kernel_rfl) (by kernel_rfl) (by kernel_rfl) ?hQ1 ?hy1 (by assumption) ?hrest1
    case hi1 => (simp only [List.getElem?_toArray, List.getElem?_cons_zero]; try rfl)
    case hQ1 => exact fun _ _ _ h => h
    case hy1 =>
      refine Or.inl ⟨by rfl, ?_⟩
      (intro wq hSw; (try dsimp only at hSw); go_simp; try with_reducible rfl)
    (try simp only [Act.put, List.setIfInBounds_toArray, List.set_cons_zero, List.set_cons_succ])
    refine wpAnyH_take (i := 1) (oi := ?oi2) (v := ?v2) ?hi2 (by kernel_rfl) (by kernel_rfl) (by kernel_rfl) ?hQ2 ?hy2 (by assumption) ?hrest2
    case hi2 => (simp only [List.getElem?_toArray, List.getElem?_cons_succ, List.getElem?_cons_zero]; try rfl)
    case hQ2 => exact fun _ _ _ h => h
    case hy2 =>
      refine Or.inl ⟨by rfl, ?_⟩
      (intro wq hSw; (try dsimp only at hSw); go_simp; try with_reducible rfl)
    (try simp only [Act.put, List.setIfInBounds_toArray, List.set_cons_zero, List.set_cons_succ])
    refine wpAnyH_take (i := 2) (oi := ?oi3) (v := ?v3) ?hi3 (by kernel_rfl) (by kernel_rfl) (by kernel_rfl) ?hQ3 ?hy3 (by assumption) ?hrest3
    case hi3 => (simp only [List.getElem?_toArray, List.getElem?_cons_succ, List.getElem?_cons_zero]; try rfl)
    case hQ3 => exact fun _ _ _ h => h
    case hy3 =>
      refine Or.inl ⟨by rfl, ?_⟩
      (intro wq hSw; (try dsimp only at hSw); go_simp; try with_reducible rfl)
    (try simp only [Act.put, List.setIfInBounds_toArray, List.set_cons_zero, List.set_cons_succ])
    refine wpAnyH_take (i := 3) (oi := ?oi4) (v := ?v4) ?hi4 (by kernel_rfl) (by kernel_rfl) (by kernel_rfl) ?hQ4 ?hy4 (by assumption) ?hrest4
    case hi4 => (simp only [List.getElem?_toArray, List.getElem?_cons_succ, List.getElem?_cons_zero]; try rfl)
    case hQ4 => exact fun _ _ _ h => h
    case hy4 =>
      refine Or.inl ⟨by rfl, ?_⟩
      (intro wq hSw; (try dsimp only at hSw); go_simp; try with_reducible rfl)
    (try simp only [Act.put, List.setIfInBounds_toArray, List.set_cons_zero, List.set_cons_succ])
    refine wpAnyH_take (i := 4) (oi := ?oi5) (v := ?v5) ?hi5 (by kernel_rfl) (by kernel_rfl) (by kernel_rfl) ?hQ5 ?hy5 (by assumption) ?hrest5
    case hi5 => (simp only [List.getElem?_toArray, List.getElem?_cons_succ, List.getElem?_cons_zero]; try rfl)
    case hQ5 => exact fun _ _ _ h => h
    case hy5 =>
      refine Or.inl ⟨by rfl, ?_⟩
      (intro wq hSw; (try dsimp only at hSw); go_simp; try with_reducible rfl)
    (try simp only [Act.put, List.setIfInBounds_toArray, List.set_cons_zero, List.set_cons_succ])
    refine wpAnyH_ready (rs := [5]) (by kernel_rfl) (by simp) ?_
    refine AllReadyH.cons (o := ?oi6) ?hi6 (fun K hK => ?hstep6) AllReadyH.nil
    case hi6 => (simp only [List.getElem?_toArray, List.getElem?_cons_succ, List.getElem?_cons_zero]; try rfl)
    (refine oper_store_mid rfl 34 (.tmp 2) (.tmp 70) rfl w.heap.size [.int .i64 0, .int .i64 0, .int .i64 0, .int .i64 0, .slice none 0 0, .int .i64 0, .int .i64 0, .bool false, .slice none 0 0] _ rfl rfl hRd.r1 rfl (by kernel_rfl) (by decide) ?_; have RR := hRd.r1.setCells (us := [.int .i64 0, .int .i64 0, .int .i64 0, .int .i64 0, .slice none 0 0, .int .i64 0, .int .i64 0, .bool false, .slice none 0 0]) rfl; have bb := below_setCells hRd.below (Nat.le_refl _) [.int .i64 0, .int .i64 0, .int .i64 0, .int .i64 0, .slice none 0 0, .int .i64 0, .int .i64 0, .bool false, .slice none 0 0])
    refine hK.out _ _ ?_ (fun hHeld => ?_)
    · exact (World.cell?_of_block (a := ⟨w.heap.size + 1, 2, none⟩) (heap_setCells (by show w.heap.size + 1 ≠ w.heap.size; omega) _ _ _)).trans C2
    clear hK K
    (try dsimp only)
    refine wpAnyH_take (i := 6) (oi := ?oi7) (v := ?v7) ?hi7 (by kernel_rfl) (by kernel_rfl) (by kernel_rfl) ?hQ7 ?hy7 (by assumption) ?hrest7
    case hi7 => (simp only [List.getElem?_toArray, List.getElem?_cons_succ, List.getElem?_cons_zero]; try rfl)
    case hQ7 => exact fun _ _ _ h => h
    case hy7 =>
      refine Or.inl ⟨by rfl, ?_⟩
      (intro wq hSw; (try dsimp only at hSw); go_simp; try with_reducible rfl)
    (try simp only [Act.put, List.setIfInBounds_toArray, List.set_cons_zero, List.set_cons_succ])
    refine wpAnyH_done (by kernel_rfl) ?_ _
    refine NoPanic.normal ?_
    (generalize World.setCells _ _ _ _ = w7 at RR bb ⊢; (go_wp2_with fail); refine bodyPost_ret (results_cell2 (k := 2) (k2 := 3) (t := 34) Try.results21 rfl rfl RR Try.underlying34 rfl (by kernel_rfl)) rfl ?_; have h9 := hrd.out; rw [if_neg hz] at h9; exact ⟨zeroRa, by rw [h9]; rfl, by rw [h9]; rfl, zeroRa_rd _, bb⟩)
  subst hz
  have C0 := hR.c2 0 _ rfl
  have C1 := hR.c2 1 _ rfl
  have C2 := hR.c2 2 _ rfl
  have C3 := hR.c2 3 _ rfl
  have C4 := hR.c2 4 _ rfl
  have C5 := hR.c2 5 _ rfl
  have C6 := hR.c2 6 _ rfl
  have C7 := hR.c2 7 _ rfl
  have C8 := hR.c2 8 _ rfl
  have hRT := rrightreply_any r w4
  rw [hOv.out] at hRT
  replace hRT := hid hRT
  go_wp2_with fail
  refine hRT.out.mono ?_
  rintro e w5 ⟨rfl, hb5⟩
  replace hR := hR.on hb5
  clear C0 C1 C2 C3 C4 C5 C6 C7 C8 hRT
  have C1 := (hR.rr.row.2 1 _ rfl).1
  obtain ⟨ro, hro⟩ : ∃ ro, ro = rightR r.data := ⟨_, rfl⟩
  rw [← hro] at hrd ⊢
  replace hro := hid hro
  go_upto_region 20 with fail
  go_cut [87] (fun s87 wx => s87 = .bool (!decide (p7 = (l.length : Int) ∧ ro = true)) ∧ wx = w5)
  case first =>
    by_cases hp : p7 = l.length
    · have jp : (p7 != (l.length : Int)) = false := by simp [hp]
      have hp := hid hp
      go_wp2_with fail
      go_meet
      exact ⟨congrArg Value.bool (by cases ro <;> simp [hp.out]), rfl⟩
    · have jp : (p7 != (l.length : Int)) = true := by simp [hp]
      go_wp2_with fail
      go_meet
      exact ⟨congrArg Value.bool (by rw [decide_eq_false (fun hh => hp hh.1)]; rfl), rfl⟩
  case rest =>
  obtain ⟨rfl, rfl⟩ := hcut
  clear C1
  have C0 := hR.c2 0 _ rfl
  have C1 := hR.c2 1 _ rfl
  have C2 := hR.c2 2 _ rfl
  have C3 := hR.c2 3 _ rfl
  have C4 := hR.c2 4 _ rfl
  have C5 := hR.c2 5 _ rfl
  have C6 := hR.c2 6 _ rfl
  have C7 := hR.c2 7 _ rfl
  have C8 := hR.c2 8 _ rfl
  have D0 := hR.c1 0 _ rfl
  have F0 := hR.f1 0 _ rfl
  have D1 := hR.c1 1 _ rfl
  have F1 := hR.f1 1 _ rfl
  have D2 := hR.c1 2 _ rfl
  have F2 := hR.f1 2 _ rfl
  have D3 := hR.c1 3 _ rfl
  have F3 := hR.f1 3 _ rfl
  have D4 := hR.c1 4 _ rfl
  have F4 := hR.f1 4 _ rfl
  have D5 := hR.c1 5 _ rfl
  have F5 := hR.f1 5 _ rfl
  have D6 := hR.c1 6 _ rfl
  have F6 := hR.f1 6 _ rfl
  have D7 := hR.c1 7 _ rfl
  have F7 := hR.f1 7 _ rfl
  have D8 := hR.c1 8 _ rfl
  have F8 := hR.f1 8 _ rfl
  by_cases hp : p7 = (l.length : Int) ∧ ro = true
  · rw [decide_eq_true hp]
    have h9 := hrd.out
    rw [if_pos trivial, if_pos hp] at h9
    replace h9 := hid h9
    clear hp
    have hF := (((((((((hR.set1 0 (by simp) (.int .i64 e1)).set1 1 (by simp) (.int .i64 e2)).set1 2 (by simp) (.int .i64 x3.c)).set1 3 (by simp) (.int .i64 x3.r)).set1 4 (by simp) (.slice x3.A x3.op.length x3.cap)).set1 5 (by simp) (.int .i64 e4)).set1 6 (by simp) (.int .i64 e5)).set1 7 (by simp) (.bool e6)).set1 8 (by simp) (.slice A7 e7.length c7))
    simp only [List.set_cons_zero, List.set_cons_succ] at hF
    go_wp2_with fail
    clear C0 C1 C2 C3 C4 C5 C6 C7 C8 D0 F0 D1 F1 D2 F2 D3 F3 D4 F4 D5 F5 D6 F6 D7 F7 D8 F8
    generalize World.setCell _ _ _ = w7 at hF ⊢
    obtain ⟨⟨_, ox3⟩, ox7⟩ := hF.x
    refine bodyPost_ret (results_cell2 (k := 2) (k2 := 3) (t := 34) Try.results21 rfl rfl hF.r1 Try.underlying34 rfl (by kernel_rfl)) rfl ?_
    refine ⟨r, by rw [h9.out, hOv.out]; rfl, by rw [h9.out], ?_, hF.below⟩
    rw [ho.out]
    exact ⟨own_rd ox3, own_rd ox7, ⟨hc3, hm3⟩, ⟨hc7, hm7⟩⟩
  · rw [decide_eq_false hp]
    have h9 := hrd.out
    rw [if_pos trivial, if_neg hp] at h9
    replace h9 := hid h9
    clear hp
    have hF := (((((((((hR.set1 0 (by simp) (.int .i64 0)).set1 1 (by simp) (.int .i64 0)).set1 2 (by simp) (.int .i64 0)).set1 3 (by simp) (.int .i64 0)).set1 4 (by simp) (.slice none 0 0)).set1 5 (by simp) (.int .i64 0)).set1 6 (by simp) (.int .i64 0)).set1 7 (by simp) (.bool false)).set1 8 (by simp) (.slice none 0 0))
    simp only [List.set_cons_zero, List.set_cons_succ] at hF
    go_wp2_with fail
    clear C0 C1 C2 C3 C4 C5 C6 C7 C8 D0 F0 D1 F1 D2 F2 D3 F3 D4 F4 D5 F5 D6 F6 D7 F7 D8 F8
    generalize World.setCell _ _ _ = w7 at hF ⊢
    refine bodyPost_ret (results_cell2 (k := 2) (k2 := 3) (t := 34) Try.results21 rfl rfl hF.r1 Try.underlying34 rfl (by kernel_rfl)) rfl ?_
    exact ⟨zeroRa, by rw [h9.out]; rfl, by rw [h9.out]; rfl, zeroRa_rd _, hF.below⟩
end Go.Proofs.Ytoceipdkmafagaa