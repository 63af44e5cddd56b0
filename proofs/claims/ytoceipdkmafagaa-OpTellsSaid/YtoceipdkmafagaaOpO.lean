import Derived.Test.YtoceipdkmafagaaOpN
import Derived.Test.YtoceipdkmafagaaOpJ
/-! op: the reply of bytes -/
namespace Go.Proofs.Ytoceipdkmafagaa
open Go.RowKit Go.Cov
def zeroRa : Ra := ⟨0, 0, ⟨0, 0, none, 0, []⟩, 0, 0, false, none, 0, []⟩
theorem zeroRa_rd (w : World) : RaRd w zeroRa := ⟨Rd.nil _ _, Rd.nil _ _, by decide, by decide⟩
def zeroCellsR : List Value := [.int .i64 0, .int .i64 0, .int .i64 0, .int .i64 0, .slice none 0 0, .int .i64 0, .int .i64 0, .bool false, .slice none 0 0]
set_option maxRecDepth 100000 in
set_option maxHeartbeats 12800000 in
theorem getreply_any {A : Option Addr} {c : Nat} {l : List UInt8} {w : World} (h : Rd w A (l.map byt)) (hc : l.length ≤ c) (hl : l.length ≤ 140737488351236) :
    Calls Try.prog 20 #[.slice A l.length c] w fun e w' => ∃ r : Ra, e = .returned (.tuple #[r.val, .int .i64 (readR l).2]) ∧ r.data = (readR l).1 ∧ RaRd w' r ∧ Below w.heap.size w w' := by
  have hAl := rd_lt h
  have b1 := below_alloc w (.cells zeroCellsR.toArray 34)
  have R1 := Row.new w zeroCellsR 34
  unfold zeroCellsR at b1 R1
  go_enter Try.func20, Try.ntmps20
  go_upto_region 1 with fail
  generalize hw1 : w.alloc _ = w1 at b1 R1 ⊢
  have n1 : w1.heap.size = w.heap.size + 1 := by rw [← hw1]; simp
  clear hw1
  have b2 := below_alloc w1 (.cells zeroCellsR.toArray 34)
  have R2 := Row.new w1 zeroCellsR 34
  unfold zeroCellsR at b2 R2
  have R1' := R1.below b2
  go_upto_region 2 with fail
  generalize hw2 : w1.alloc _ = w2 at b2 R2 R1' ⊢
  have n2 : w2.heap.size = w.heap.size + 2 := by rw [← hw2]; simp [n1]
  clear hw2
  have b12 := below_step b1 b2
  rw [n1] at R2
  clear R1 b1 b2 n1
  have b3 := below_alloc w2 (.cells #[.slice A l.length c, .int .i64 0, .int .i64 0] 67)
  have R3 := Row.new w2 [.slice A l.length c, .int .i64 0, .int .i64 0] 67
  go_upto_region 3 with fail
  generalize hw3 : w2.alloc _ = w3 at b3 R3 ⊢
  clear hw3
  rw [n2] at R3
  have b13 := below_step b12 b3
  have hR : Rg w w3 w.heap.size (w.heap.size + 1) (w.heap.size + 2) [.int .i64 0, .int .i64 0, .int .i64 0, .int .i64 0, .slice none 0 0, .int .i64 0, .int .i64 0, .bool false, .slice none 0 0] [.int .i64 0, .int .i64 0, .int .i64 0, .int .i64 0, .slice none 0 0, .int .i64 0, .int .i64 0, .bool false, .slice none 0 0] A c l (0, 0) (fun _ => True) :=
    ⟨R1'.below b3, R2.below b3, ⟨R3, h.below b13, fun hn ad ha => by have := hAl hn ad ha; omega, hc, hl⟩, trivial, fun _ _ _ _ _ _ _ => trivial, by omega, hAl, b13⟩
  clear R1' R2 R3 b3 b12 n2 b13
  go_upto_region 4 with fail
  -- num 1
  go_wp2_with fail
  refine (nextnum_any hR.rr).mono ?_
  rintro e w3 ⟨rfl, h3, G3⟩
  replace hR := hR.next h3 G3
  obtain ⟨e1, s1, he1⟩ : ∃ e s, nx numR 0 l ((0 : Int), (0 : Int)) = (e, s) := ⟨_, _, rfl⟩
  rw [he1] at hR ⊢
  have C := hR.c2 0 _ rfl
  have F := hR.f2 0 _ rfl
  replace hR := hR.set 0 (by simp) (.int .i64 e1)
  go_upto_region 5 with fail
  clear C F h3 G3
  generalize World.setCell _ _ _ = w4 at hR ⊢
  simp only [List.set_cons_zero] at hR
  -- num 2
  go_wp2_with fail
  refine (nextnum_any hR.rr).mono ?_
  rintro e w3 ⟨rfl, h3, G3⟩
  replace hR := hR.next h3 G3
  obtain ⟨e2, s2, he2⟩ : ∃ e s, nx numR 0 l s1 = (e, s) := ⟨_, _, rfl⟩
  rw [he2] at hR ⊢
  have C := hR.c2 1 _ rfl
  have F := hR.f2 1 _ rfl
  replace hR := hR.set 1 (by simp) (.int .i64 e2)
  go_upto_region 6 with fail
  clear C F h3 G3
  generalize World.setCell _ _ _ = w4 at hR ⊢
  simp only [List.set_cons_zero, List.set_cons_succ] at hR
  -- value 3
  go_wp2_with fail
  refine (rvalue_any hR.rr).mono ?_
  rintro e w3 ⟨x3, rfl, hx3, o3, h3, G3⟩
  have z3 := hR.rr.row.1
  replace hR := hR.next h3 G3
  obtain ⟨e3, s3, he3⟩ : ∃ e s, getV l s2 = (e, s) := ⟨_, _, rfl⟩
  rw [he3] at hR hx3
  obtain ⟨A3, c3, hsl, hc3, hm3, _⟩ := own_shape o3
  injection hsl with hs1 hs2 hs3
  rw [← hs3] at hc3 hm3
  clear hs1 hs2 hs3
  replace hx3 := hid hx3
  replace hR := hR.more (own_mono o3 z3) (fun k W1 W2 hk hG _ hx => keep_own hk hG hx)
  have C0 := hR.c2 2 _ rfl
  have F0 := hR.f2 2 _ rfl
  have C1 := hR.c2 3 _ rfl
  have F1 := hR.f2 3 _ rfl
  have C2 := hR.c2 4 _ rfl
  have F2 := hR.f2 4 _ rfl
  replace hR := ((hR.set 2 (by simp) (.int .i64 x3.c)).set 3 (by simp) (.int .i64 x3.r)).set 4 (by simp) (.slice x3.A x3.op.length x3.cap)
  go_upto_region 7 with fail
  clear C0 F0 C1 F1 C2 F2 h3 G3 o3 z3
  generalize World.setCell _ _ _ = w4 at hR ⊢
  simp only [List.set_cons_zero, List.set_cons_succ] at hR
  -- num 4
  go_wp2_with fail
  refine (nextnum_any hR.rr).mono ?_
  rintro e w3 ⟨rfl, h3, G3⟩
  replace hR := hR.next h3 G3
  obtain ⟨e4, s4, he4⟩ : ∃ e s, nx numR 0 l s3 = (e, s) := ⟨_, _, rfl⟩
  rw [he4] at hR ⊢
  have C := hR.c2 5 _ rfl
  have F := hR.f2 5 _ rfl
  replace hR := hR.set 5 (by simp) (.int .i64 e4)
  go_upto_region 8 with fail
  clear C F h3 G3
  generalize World.setCell _ _ _ = w4 at hR ⊢
  simp only [List.set_cons_zero, List.set_cons_succ] at hR
  -- num 5
  go_wp2_with fail
  refine (nextnum_any hR.rr).mono ?_
  rintro e w3 ⟨rfl, h3, G3⟩
  replace hR := hR.next h3 G3
  obtain ⟨e5, s5, he5⟩ : ∃ e s, nx numR 0 l s4 = (e, s) := ⟨_, _, rfl⟩
  rw [he5] at hR ⊢
  have C := hR.c2 6 _ rfl
  have F := hR.f2 6 _ rfl
  replace hR := hR.set 6 (by simp) (.int .i64 e5)
  go_upto_region 9 with fail
  clear C F h3 G3
  generalize World.setCell _ _ _ = w4 at hR ⊢
  simp only [List.set_cons_zero, List.set_cons_succ] at hR
  -- bool 6
  go_wp2_with fail
  refine (nextbool_any hR.rr).mono ?_
  rintro e w3 ⟨rfl, h3, G3⟩
  replace hR := hR.next h3 G3
  obtain ⟨e6, s6, he6⟩ : ∃ e s, nx boolR false l s5 = (e, s) := ⟨_, _, rfl⟩
  rw [he6] at hR ⊢
  have C := hR.c2 7 _ rfl
  have F := hR.f2 7 _ rfl
  replace hR := hR.set 7 (by simp) (.bool e6)
  go_upto_region 10 with fail
  clear C F h3 G3
  generalize World.setCell _ _ _ = w4 at hR ⊢
  simp only [List.set_cons_zero, List.set_cons_succ] at hR
  -- text 7
  go_wp2_with fail
  refine (nexttext_any hR.rr).mono ?_
  rintro e w3 ⟨v7, rfl, o3, h3, G3⟩
  have z3 := hR.rr.row.1
  replace hR := hR.next h3 G3
  obtain ⟨e7, s7, he7⟩ : ∃ e s, nx bytesR [] l s6 = (e, s) := ⟨_, _, rfl⟩
  rw [he7] at hR o3
  obtain ⟨A7, c7, rfl, hc7, hm7, _⟩ := own_shape o3
  replace hR := hR.more (own_mono o3 z3) (fun k W1 W2 hk hG _ hx => keep_own hk hG hx)
  have C := hR.c2 8 _ rfl
  have F := hR.f2 8 _ rfl
  replace hR := hR.set 8 (by simp) (.slice A7 e7.length c7)
  go_upto_region 11 with fail
  clear C F h3 G3 o3 z3
  generalize World.setCell _ _ _ = w4 at hR ⊢
  simp only [List.set_cons_zero, List.set_cons_succ] at hR
  obtain ⟨⟨_, ox3⟩, ox7⟩ := hR.x
  have C0 := hR.c2 0 _ rfl
  have C1 := hR.c2 1 _ rfl
  have C2 := hR.c2 2 _ rfl
  have C3 := hR.c2 3 _ rfl
  have C4 := hR.c2 4 _ rfl
  have C5 := hR.c2 5 _ rfl
  have C6 := hR.c2 6 _ rfl
  have C7 := hR.c2 7 _ rfl
  have C8 := hR.c2 8 _ rfl
  obtain ⟨r, ho⟩ : ∃ r : Ra, r = ⟨e1, e2, x3, e4, e5, e6, A7, c7, e7⟩ := ⟨_, rfl⟩
  have hRT := rightreply_any r w4
  have hOd : r.data = (e1, e2, e3, e4, e5, e6, e7) := by rw [ho, ← hx3.out]; rfl
  have hOv : r.val = .agg #[.int .i64 e1, .int .i64 e2, .int .i64 x3.c, .int .i64 x3.r, .slice x3.A x3.op.length x3.cap, .int .i64 e4, .int .i64 e5, .bool e6, .slice A7 e7.length c7] := by rw [ho]; rfl
  replace ho := hid ho
  replace hOv := hid hOv
  replace hOd := hid hOd
  rw [hOv.out] at hRT
  go_wp2_with fail
  refine hRT.mono ?_
  rintro e w5 ⟨rfl, hb5⟩
  replace hR := hR.on hb5
  clear C0 C1 C2 C3 C4 C5 C6 C7 C8 hRT
  go_wp2_with fail
  refine (end_any hR.rr (rightR r.data)).mono ?_
  rintro e w6 ⟨rfl, hb6⟩
  replace hR := hR.on hb6
  clear hb5 hb6
  have eG : getR2 l (0, 0) = (r.data, s7) := by
    rw [hOd.out]
    unfold getR2
    simp only [sq, he1, he2, he3, he4, he5, he6, he7]
  have hW := whole_end rightR zeroR getR2 l eG
  have hrd : readR l = whole rightR 151 zeroR getR2 l := rfl
  rw [hW] at hrd
  clear hW eG
  generalize endR l.length s7 (rightR r.data) = er at hrd ⊢
  have C0 := hR.c2 0 _ rfl
  have C1 := hR.c2 1 _ rfl
  have C2 := hR.c2 2 _ rfl
  have C3 := hR.c2 3 _ rfl
  have C4 := hR.c2 4 _ rfl
  have C5 := hR.c2 5 _ rfl
  have C6 := hR.c2 6 _ rfl
  have C7 := hR.c2 7 _ rfl
  have C8 := hR.c2 8 _ rfl
  by_cases hz : er = 0
  · have jz : (er != 0) = false := by simp [hz]
    have D0 := hR.c1 0 _ rfl
    have F0 := hR.f1 0 _ rfl
    have D1 := hR.c1 1 _ rfl
    have F1 := hR.f1 1 _ rfl
    have D2 := hR.c1 2 _ rfl
    have F2 := hR.f1 2 _ rfl
    have D3 := hR.c1 3 _ rfl
    have F3 := hR.f1 3 _ rfl
    have D4 := hR.c1 4 _ rfl
    have F4 := hR.f1 4 _ rfl
    have D5 := hR.c1 5 _ rfl
    have F5 := hR.f1 5 _ rfl
    have D6 := hR.c1 6 _ rfl
    have F6 := hR.f1 6 _ rfl
    have D7 := hR.c1 7 _ rfl
    have F7 := hR.f1 7 _ rfl
    have D8 := hR.c1 8 _ rfl
    have F8 := hR.f1 8 _ rfl
    have hF := (((((((((hR.set1 0 (by simp) (.int .i64 e1)).set1 1 (by simp) (.int .i64 e2)).set1 2 (by simp) (.int .i64 x3.c)).set1 3 (by simp) (.int .i64 x3.r)).set1 4 (by simp) (.slice x3.A x3.op.length x3.cap)).set1 5 (by simp) (.int .i64 e4)).set1 6 (by simp) (.int .i64 e5)).set1 7 (by simp) (.bool e6)).set1 8 (by simp) (.slice A7 e7.length c7))
    simp only [List.set_cons_zero, List.set_cons_succ] at hF
    go_wp2_with fail
    clear C0 C1 C2 C3 C4 C5 C6 C7 C8 D0 F0 D1 F1 D2 F2 D3 F3 D4 F4 D5 F5 D6 F6 D7 F7 D8 F8
    generalize World.setCell _ _ _ = w7 at hF ⊢
    obtain ⟨⟨_, ox3⟩, ox7⟩ := hF.x
    refine bodyPost_ret (results_cell2 (k := 2) (k2 := 3) (t := 34) Try.results20 rfl rfl hF.r1 Try.underlying34 rfl (by kernel_rfl)) rfl ?_
    rw [if_pos hz] at hrd
    refine ⟨r, by rw [hrd, hz, hOv.out]; rfl, by rw [hrd], ?_, hF.below⟩
    rw [ho.out]
    exact ⟨own_rd ox3, own_rd ox7, ⟨hc3, hm3⟩, ⟨hc7, hm7⟩⟩
  · have jz : (er != 0) = true := by simp [hz]
    have D0 := hR.c1 0 _ rfl
    have F0 := hR.f1 0 _ rfl
    have D1 := hR.c1 1 _ rfl
    have F1 := hR.f1 1 _ rfl
    have D2 := hR.c1 2 _ rfl
    have F2 := hR.f1 2 _ rfl
    have D3 := hR.c1 3 _ rfl
    have F3 := hR.f1 3 _ rfl
    have D4 := hR.c1 4 _ rfl
    have F4 := hR.f1 4 _ rfl
    have D5 := hR.c1 5 _ rfl
    have F5 := hR.f1 5 _ rfl
    have D6 := hR.c1 6 _ rfl
    have F6 := hR.f1 6 _ rfl
    have D7 := hR.c1 7 _ rfl
    have F7 := hR.f1 7 _ rfl
    have D8 := hR.c1 8 _ rfl
    have F8 := hR.f1 8 _ rfl
    have hF := (((((((((hR.set1 0 (by simp) (.int .i64 0)).set1 1 (by simp) (.int .i64 0)).set1 2 (by simp) (.int .i64 0)).set1 3 (by simp) (.int .i64 0)).set1 4 (by simp) (.slice none 0 0)).set1 5 (by simp) (.int .i64 0)).set1 6 (by simp) (.int .i64 0)).set1 7 (by simp) (.bool false)).set1 8 (by simp) (.slice none 0 0))
    simp only [List.set_cons_zero, List.set_cons_succ] at hF
    go_wp2_with fail
    clear C0 C1 C2 C3 C4 C5 C6 C7 C8 D0 F0 D1 F1 D2 F2 D3 F3 D4 F4 D5 F5 D6 F6 D7 F7 D8 F8
    generalize World.setCell _ _ _ = w7 at hF ⊢
    refine bodyPost_ret (results_cell2 (k := 2) (k2 := 3) (t := 34) Try.results20 rfl rfl hF.r1 Try.underlying34 rfl (by kernel_rfl)) rfl ?_
    rw [if_neg hz] at hrd
    exact ⟨zeroRa, by rw [hrd]; rfl, by rw [hrd]; rfl, zeroRa_rd _, hF.below⟩
end Go.Proofs.Ytoceipdkmafagaa