import Derived.Test.YtnkocbdbfkhgmaaDoorCodeG
import Derived.Test.YtnkocbdbfkhgmaaDoorCodeF
/-! code: so many things as the next number says -/
namespace Go.Proofs.YtnkocbdbfkhgmaaDoor
open Go.RowKit Go.Cov
set_option maxHeartbeats 1600000 in
theorem one_ty {w : World} {b c q : Nat} {A : Option Addr} {l : List UInt8} {s : Int × Int} (h : Rr w b A c l s) (hq : w.cell? ⟨q, 0, none⟩ = some (.pointer (some ⟨b, 0, none⟩))) :
    Calls Tryd.prog 54 #[.pointer (some ⟨q, 0, none⟩)] w fun e w' => e = .returned (.int .i64 (nx numR 0 l s).1) ∧ Rr w' b A c l (nx numR 0 l s).2 ∧ Gro b b w w' := by
  have K := hid (cnum_any h)
  generalize nx numR 0 l s = g at K ⊢
  go_enter Tryd.func54, Tryd.ntmps54
  go_wp2_with fail
  refine K.out.mono ?_
  rintro e w1 ⟨rfl, h1, G1⟩
  go_wp2_with fail
  go_ret
  exact ⟨rfl, h1, G1⟩
set_option maxHeartbeats 1600000 in
theorem one_ins {w : World} {b c q : Nat} {A : Option Addr} {l : List UInt8} {s : Int × Int} (h : Rr w b A c l s) (hq : w.cell? ⟨q, 0, none⟩ = some (.pointer (some ⟨b, 0, none⟩))) (hqb : q ≠ b) :
    Calls Tryd.prog 56 #[.pointer (some ⟨q, 0, none⟩)] w fun e w' => e = .returned (.agg #[.int .i64 (getI l s).1.1, .int .i64 (getI l s).1.2]) ∧ Rr w' b A c l (getI l s).2 ∧ Gro b b w w' := by
  have hb := h.row.1
  have hlt := h.lt
  have b1 := below_alloc w (.cells #[.int .i64 0, .int .i64 0] 50)
  have R1 := Row.new w [.int .i64 0, .int .i64 0] 50
  have hq1 := cell_on b1 hq
  have hq0 := cell_lt hq
  have h1 := h.below b1
  unfold getI sq
  obtain ⟨e1, s1, he1⟩ : ∃ e s1, nx numR 0 l s = (e, s1) := ⟨_, _, rfl⟩
  rw [he1]
  dsimp only
  obtain ⟨e2, s2, he2⟩ : ∃ e s2, nx numR 0 l s1 = (e, s2) := ⟨_, _, rfl⟩
  rw [he2]
  dsimp only
  replace hb := hid hb
  go_enter Tryd.func56, Tryd.ntmps56
  go_upto_region 1 with fail
  change Row (w.alloc (.cells #[.int .i64 0, .int .i64 0] 50)) _ _ at R1
  generalize w.alloc (.cells #[.int .i64 0, .int .i64 0] 50) = w1 at b1 R1 hq1 h1 ⊢
  have K := hid (cnum_any h1)
  go_wp2_with fail
  refine K.out.mono ?_
  rintro e w2 ⟨rfl, h2, G2⟩
  clear K
  rw [he1] at h2 ⊢
  have hq2 : w2.cell? ⟨q, 0, none⟩ = some (.pointer (some ⟨b, 0, none⟩)) := (World.cell?_of_block (G2.block q (cell_lt hq1) hqb hqb)).trans hq1
  have R2 := R1.gro G2 (by have := hb.out; omega)
  have K := hid (cnum_any h2)
  clear hq1 R1
  go_wp2_with fail
  refine K.out.mono ?_
  rintro e w3 ⟨rfl, h3, G3⟩
  clear K hq2
  rw [he2] at h3 ⊢
  have hne : w.heap.size ≠ b := by have := hb.out; omega
  have R3 := R2.gro G3 hne
  have C0 := (R3.2 0 _ rfl).1
  have C1 := (R3.2 1 _ rfl).1
  have F0 := (R3.2 0 _ rfl).2
  have F1 := (R3.2 1 _ rfl).2
  have GG := (((Gro.of_below (b := b) (c := b) b1).trans (G2.trans G3)).newset (Nat.le_refl _) 0 (.int .i64 e1)).newset (Nat.le_refl _) 1 (.int .i64 e2)
  have hR := (h3.new' (Gro.set w.heap.size w.heap.size 0 w3 (.int .i64 e1)) hne.symm (fun hl ad ha => hlt hl ad ha)).new' (Gro.set w.heap.size w.heap.size 1 _ (.int .i64 e2)) hne.symm (fun hl ad ha => hlt hl ad ha)
  have RR := (R3.set 0 (by simp) (.int .i64 e1)).set 1 (by simp) (.int .i64 e2)
  replace GG := hid GG
  replace hR := hid hR
  replace RR := hid RR
  replace he1 := hid he1
  replace he2 := hid he2
  go_wp2_with fail
  refine bodyPost_ret (results_cell1 (k := 1) (t := 50) Tryd.results56 rfl RR.out Tryd.underlying50 rfl (by kernel_rfl)) rfl ?_
  exact ⟨rfl, hR.out, GG.out⟩

theorem info_ty : (Tryd.prog.info? 43).map (fun i => (i.zero, i.size, i.bytes)) = some (some (.int .i64 0), 1, 8) := by kernel_rfl
set_option maxRecDepth 100000 in
set_option maxHeartbeats 3200000 in
theorem list_ty {w : World} {b c q : Nat} {A : Option Addr} {l : List UInt8} {s : Int × Int} (h : Rr w b A c l s) (hq : w.cell? ⟨q, 0, none⟩ = some (.pointer (some ⟨b, 0, none⟩))) (hqb : q ≠ b) :
    Calls Tryd.prog 53 #[.pointer (some ⟨b, 0, none⟩), .int .i64 16, .func (.func 54) #[] #[.pointer (some ⟨q, 0, none⟩)]] w fun e w' => ∃ (v : Value) (xs : List Int), e = .returned v ∧ xs = (cnt 16 111 (nx numR 0) l s).1 ∧ xs.length ≤ 16 ∧ OwnEls tyEl w' w.heap.size 43 v xs ∧ Rr w' b A c l (cnt 16 111 (nx numR 0) l s).2 ∧ Gro b b w w' := by
  have hlt := h.lt
  have hbw := hid h.row.1
  have K := hid (cnum_any h)
  unfold cnt
  obtain ⟨e5, s5, he5⟩ : ∃ e s1, nx numR 0 l s = (e, s1) := ⟨_, _, rfl⟩
  rw [he5] at K
  rw [he5]
  replace he5 := hid he5
  dsimp only at K ⊢
  obtain ⟨sc, hsc⟩ : ∃ sc, chk 16 111 (e5, s5) = sc := ⟨_, rfl⟩
  have hck : sc.2 = 0 → e5.toNat ≤ 16 := by
    rw [← hsc]
    unfold chk
    split
    · intro hh; exact absurd hh (show ¬ ((111 : Int) = 0) by decide)
    · rename_i hh; intro h0; dsimp only at hh h0; by_cases hx : 16 < e5; exact absurd ⟨h0, .inr hx⟩ hh; omega
  rw [hsc]
  replace hsc := hid hsc
  replace hck := hid hck
  go_enter Tryd.func53, Tryd.ntmps53
  go_wp2_with fail
  refine K.out.mono ?_
  rintro e w1 ⟨rfl, h1, G1⟩
  clear K
  have hq1 : w1.cell? ⟨q, 0, none⟩ = some (.pointer (some ⟨b, 0, none⟩)) := (World.cell?_of_block (G1.block q (cell_lt hq) hqb hqb)).trans hq
  replace hq := hid hq
  go_upto_region 2 with fail
  go_cut [24] (fun s24 wx => s24 = .bool (decide (s5.2 = 0 ∧ (e5 < 0 ∨ 16 < e5))) ∧ wx = w1)
  case first =>
    obtain ⟨p5, r5⟩ := s5
    have C2 := (h1.row.2 2 _ rfl).1
    by_cases z5 : r5 = 0
    · subst z5
      by_cases n5 : e5 < 0
      · have j5 : decide (e5 < 0) = true := decide_eq_true n5
        go_wp2_with fail
        go_meet
        exact ⟨congrArg Value.bool (decide_eq_true ⟨trivial, .inl n5⟩).symm, rfl⟩
      · have j5 : decide (e5 < 0) = false := decide_eq_false n5
        go_wp2_with fail
        go_meet
        exact ⟨congrArg Value.bool (decide_eq_decide.2 ⟨fun h => ⟨trivial, .inr h⟩, fun h => h.2.resolve_left (by omega)⟩), rfl⟩
    · have y5 : (r5 == 0) = false := by simp [z5]
      go_wp2_with fail
      go_meet
      exact ⟨by simp [z5], rfl⟩
  case rest =>
  obtain ⟨rfl, rfl⟩ := hcut
  go_upto_if 24 with fail
  go_cut [7] (fun s7 wx => s7 = .int .i64 e5 ∧ Rr wx b A c l sc ∧ Gro b b wc wx)
  case first =>
    by_cases hz : s5.2 = 0 ∧ (e5 < 0 ∨ 16 < e5)
    · have hd : decide (s5.2 = 0 ∧ (e5 < 0 ∨ 16 < e5)) = true := decide_eq_true hz
      have F2 := (h1.row.2 2 _ rfl).2
      have C2 := (h1.row.2 2 _ rfl).1
      have hS := h1.set2 111
      have GS := Gro.set b b 2 wc (.int .i64 111)
      go_wp2_with fail
      go_meet
      refine ⟨rfl, ?_, GS⟩
      rw [← hsc.out]
      unfold chk
      rw [if_pos hz]
      exact hS
    · have hd : decide (s5.2 = 0 ∧ (e5 < 0 ∨ 16 < e5)) = false := decide_eq_false hz
      go_wp2_with fail
      go_meet
      refine ⟨rfl, ?_, Gro.refl _ _ _⟩
      rw [← hsc.out]
      unfold chk
      rw [if_neg hz]
      exact h1
  case rest =>
  obtain ⟨w1, hw1⟩ : ∃ w1, w1 = wc := ⟨_, rfl⟩
  obtain ⟨rfl, hc1, hG1⟩ := hcut
  replace G1 := G1.trans hG1
  have hqc := (World.cell?_of_block (hG1.block q (cell_lt hq1) hqb hqb)).trans hq1
  clear hq1 hw1 h1 hG1
  obtain ⟨wl, hwl⟩ : ∃ wl, wl = wc := ⟨_, rfl⟩
  rw [← hwl] at hc1 G1 hqc
  replace hqc := hid hqc
  go_wp2_with fail
  go_loopw [7, 8] (fun i o W => ∃ (n : Int) (sk : Int × Int) (outs : List Int) (v : Value), i = .int .i64 n ∧ o = v ∧ (outs.length ≤ 16 ∧ (sk.2 = 0 → outs.length + n.toNat ≤ 16)) ∧ getL (nx numR 0) e5.toNat l sc = (outs ++ (getL (nx numR 0) n.toNat l sk).1, (getL (nx numR 0) n.toNat l sk).2) ∧ OwnEls tyEl W w.heap.size 43 v outs ∧ Rr W b A c l sk ∧ Gro b b w W) (fun i _ _ => (RowKit.intOf i).toNat)
  case atStart => exact ⟨e5, sc, [], .slice none 0 0, rfl, rfl, ⟨by simp, by simpa using hck.out⟩, by simp, OwnEls.nil _ _ _ _, by rw [← hwl]; exact hc1, by rw [← hwl]; exact G1⟩
  case round =>
    clear hwl
    obtain ⟨n, sk, outs, v, rfl, hov, ⟨hl1, hl2⟩, hgl, hE, hrrk, hGk⟩ := hrel
    replace hov := hov.symm
    subst hov
    have C2 := (hrrk.row.2 2 _ rfl).1
    have hqk := hid ((World.cell?_of_block (hGk.block q (cell_lt hq.out) hqb hqb)).trans hq.out)
    go_upto_region 5 with fail
    go_cut [36] (fun s36 wx => s36 = .bool (decide (0 < n ∧ sk.2 = 0)) ∧ wx = wr)
    case first =>
      by_cases hn : 0 < n
      · have jn : decide (0 < n) = true := decide_eq_true hn
        go_wp2_with fail
        go_meet
        exact ⟨congrArg Value.bool (by by_cases hz : sk.2 = 0 <;> simp [hn, hz]), rfl⟩
      · have jn : decide (0 < n) = false := decide_eq_false hn
        go_wp2_with fail
        go_meet
        exact ⟨congrArg Value.bool (decide_eq_false (fun hh => by omega)).symm, rfl⟩
    case rest =>
    obtain ⟨rfl, rfl⟩ := hcut
    clear C2
    by_cases hgo : 0 < n ∧ sk.2 = 0
    · rw [decide_eq_true hgo]
      obtain ⟨hn, hz⟩ := hgo
      obtain ⟨m, rfl⟩ : ∃ m : Nat, n = (m : Int) + 1 := ⟨(n - 1).toNat, by omega⟩
      have hm16 := hl2 hz
      have hgs : getL (nx numR 0) ((m : Int) + 1).toNat l sk = (((nx numR 0) l sk).1 :: (getL (nx numR 0) m l ((nx numR 0) l sk).2).1, (getL (nx numR 0) m l ((nx numR 0) l sk).2).2) := by
        rw [show ((m : Int) + 1).toNat = m + 1 by omega]; exact getL_ok (nx numR 0) m l sk hz
      rw [hgs] at hgl
      clear hgs
      have KO := one_ty hrrk hqk.out
      obtain ⟨y, s2, hy⟩ : ∃ y s2, (nx numR 0) l sk = (y, s2) := ⟨_, _, rfl⟩
      rw [hy] at KO hgl
      dsimp only at KO hgl
      have HGL := hid hgl
      clear hgl hy hz
      replace KO := hid KO
      have zg := hGk.size
      replace hl2 := hid hl2
      go_wp2_with fail
      refine KO.out.mono ?_
      rintro e w3 ⟨rfl, h3, G3⟩
      clear KO
      have hE3 : OwnEls tyEl w3 w.heap.size 43 v outs := ⟨G3.own hE.1 hbw.out, fun a ha p hp => by cases hp⟩
      have b4 := below_alloc w3 (.cells #[.int .i64 y] 43)
      have hE4 := hE3.below b4
      have rB := rd_box w3 #[.int .i64 y] 43
      have h4 := h3.below b4
      have G4 := (hGk.trans G3).trans (Gro.of_below b4)
      have zB := Nat.le_trans (Nat.le_trans zg G3.size) b4.size
      replace h4 := hid h4
      replace G4 := hid G4
      clear b4 hE3 h3 G3 hE hrrk hGk
      go_wp2_with (at_builtin; refine wpList_app rfl (.tmp 39) (.tmp 42) 42 rfl w.heap.size 43 Tryd.underlying42 info_ty rfl (by decide) v outs.length (outs.flatMap tyEl.cells) rfl hE4.1 (some ⟨w3.heap.size, 0, none⟩) 1 1 [.int .i64 y] rfl rfl rB (by intro u hu; simp at hu; subst hu; rfl) (by omega) (by omega) zB ?_; intro v7 w7 own7 hg7 hat7)
      have h7 := h4.out.grown hg7 (fun e => by have := (own_lt hE4.1 e).1; have := hbw.out; omega) (fun hl ad ha e => by have h1 := (own_lt hE4.1 e).1; have h2 := hlt hl ad ha; omega)
      have G7 := G4.out.grown hg7 (fun k hk => (own_lt hE4.1 hk).1)
      have E7 : OwnEls tyEl w7 w.heap.size 43 v7 (outs ++ [y]) := ⟨by rw [List.length_append, List.flatMap_append, show List.flatMap tyEl.cells [y] = [.int .i64 y] from rfl]; exact own7, fun a ha p hp => by cases hp⟩
      have e6 : IntKind.i64.wrap ((m : Int) + 1 - 1) = m := by rw [show (m : Int) + 1 - 1 = m by omega]; exact wrap_of _ (by omega) (by omega)
      clear own7 hg7 hat7 hE4 rB zB
      go_roundw
      case rel => exact ⟨m, s2, outs ++ [y], v7, (by first | rfl | (congr 1)), rfl, ⟨by rw [List.length_append]; simp; omega, fun _ => by rw [List.length_append]; simp; omega⟩, by rw [HGL.out, List.append_assoc, Int.toNat_natCast]; rfl, E7, h7, G7⟩
      case measure => simp [RowKit.intOf]
    · rw [decide_eq_false hgo]
      have HEX : Hid (getL (nx numR 0) e5.toNat l sc = (outs, sk)) := by
        refine hid ?_
        rw [hgl]
        by_cases hz : sk.2 = 0
        · rw [show n.toNat = 0 by omega]; simp [getL]
        · rw [getL_err (nx numR 0) _ l sk hz]; simp
      clear hgl hgo
      go_wp2_with fail
      go_ret
      exact ⟨_, outs, rfl, by rw [HEX.out], hl1, hE, by rw [HEX.out]; exact hrrk, hGk⟩

theorem info_ins : (Tryd.prog.info? 50).map (fun i => (i.zero, i.size, i.bytes)) = some (some (.agg #[.int .i64 0, .int .i64 0]), 2, 16) := by kernel_rfl
set_option maxRecDepth 100000 in
set_option maxHeartbeats 3200000 in
theorem list_ins {w : World} {b c q : Nat} {A : Option Addr} {l : List UInt8} {s : Int × Int} (h : Rr w b A c l s) (hq : w.cell? ⟨q, 0, none⟩ = some (.pointer (some ⟨b, 0, none⟩))) (hqb : q ≠ b) :
    Calls Tryd.prog 55 #[.pointer (some ⟨b, 0, none⟩), .int .i64 16384, .func (.func 56) #[] #[.pointer (some ⟨q, 0, none⟩)]] w fun e w' => ∃ (v : Value) (xs : List ID), e = .returned v ∧ xs = (cnt 16384 111 getI l s).1 ∧ xs.length ≤ 16384 ∧ OwnEls inEl w' w.heap.size 50 v xs ∧ Rr w' b A c l (cnt 16384 111 getI l s).2 ∧ Gro b b w w' := by
  have hlt := h.lt
  have hbw := hid h.row.1
  have K := hid (cnum_any h)
  unfold cnt
  obtain ⟨e5, s5, he5⟩ : ∃ e s1, nx numR 0 l s = (e, s1) := ⟨_, _, rfl⟩
  rw [he5] at K
  rw [he5]
  replace he5 := hid he5
  dsimp only at K ⊢
  obtain ⟨sc, hsc⟩ : ∃ sc, chk 16384 111 (e5, s5) = sc := ⟨_, rfl⟩
  have hck : sc.2 = 0 → e5.toNat ≤ 16384 := by
    rw [← hsc]
    unfold chk
    split
    · intro hh; exact absurd hh (show ¬ ((111 : Int) = 0) by decide)
    · rename_i hh; intro h0; dsimp only at hh h0; by_cases hx : 16384 < e5; exact absurd ⟨h0, .inr hx⟩ hh; omega
  rw [hsc]
  replace hsc := hid hsc
  replace hck := hid hck
  go_enter Tryd.func55, Tryd.ntmps55
  go_wp2_with fail
  refine K.out.mono ?_
  rintro e w1 ⟨rfl, h1, G1⟩
  clear K
  have hq1 : w1.cell? ⟨q, 0, none⟩ = some (.pointer (some ⟨b, 0, none⟩)) := (World.cell?_of_block (G1.block q (cell_lt hq) hqb hqb)).trans hq
  replace hq := hid hq
  go_upto_region 2 with fail
  go_cut [24] (fun s24 wx => s24 = .bool (decide (s5.2 = 0 ∧ (e5 < 0 ∨ 16384 < e5))) ∧ wx = w1)
  case first =>
    obtain ⟨p5, r5⟩ := s5
    have C2 := (h1.row.2 2 _ rfl).1
    by_cases z5 : r5 = 0
    · subst z5
      by_cases n5 : e5 < 0
      · have j5 : decide (e5 < 0) = true := decide_eq_true n5
        go_wp2_with fail
        go_meet
        exact ⟨congrArg Value.bool (decide_eq_true ⟨trivial, .inl n5⟩).symm, rfl⟩
      · have j5 : decide (e5 < 0) = false := decide_eq_false n5
        go_wp2_with fail
        go_meet
        exact ⟨congrArg Value.bool (decide_eq_decide.2 ⟨fun h => ⟨trivial, .inr h⟩, fun h => h.2.resolve_left (by omega)⟩), rfl⟩
    · have y5 : (r5 == 0) = false := by simp [z5]
      go_wp2_with fail
      go_meet
      exact ⟨by simp [z5], rfl⟩
  case rest =>
  obtain ⟨rfl, rfl⟩ := hcut
  go_upto_if 24 with fail
  go_cut [7] (fun s7 wx => s7 = .int .i64 e5 ∧ Rr wx b A c l sc ∧ Gro b b wc wx)
  case first =>
    by_cases hz : s5.2 = 0 ∧ (e5 < 0 ∨ 16384 < e5)
    · have hd : decide (s5.2 = 0 ∧ (e5 < 0 ∨ 16384 < e5)) = true := decide_eq_true hz
      have F2 := (h1.row.2 2 _ rfl).2
      have C2 := (h1.row.2 2 _ rfl).1
      have hS := h1.set2 111
      have GS := Gro.set b b 2 wc (.int .i64 111)
      go_wp2_with fail
      go_meet
      refine ⟨rfl, ?_, GS⟩
      rw [← hsc.out]
      unfold chk
      rw [if_pos hz]
      exact hS
    · have hd : decide (s5.2 = 0 ∧ (e5 < 0 ∨ 16384 < e5)) = false := decide_eq_false hz
      go_wp2_with fail
      go_meet
      refine ⟨rfl, ?_, Gro.refl _ _ _⟩
      rw [← hsc.out]
      unfold chk
      rw [if_neg hz]
      exact h1
  case rest =>
  obtain ⟨w1, hw1⟩ : ∃ w1, w1 = wc := ⟨_, rfl⟩
  obtain ⟨rfl, hc1, hG1⟩ := hcut
  replace G1 := G1.trans hG1
  have hqc := (World.cell?_of_block (hG1.block q (cell_lt hq1) hqb hqb)).trans hq1
  clear hq1 hw1 h1 hG1
  obtain ⟨wl, hwl⟩ : ∃ wl, wl = wc := ⟨_, rfl⟩
  rw [← hwl] at hc1 G1 hqc
  replace hqc := hid hqc
  go_wp2_with fail
  go_loopw [7, 8] (fun i o W => ∃ (n : Int) (sk : Int × Int) (outs : List ID) (v : Value), i = .int .i64 n ∧ o = v ∧ (outs.length ≤ 16384 ∧ (sk.2 = 0 → outs.length + n.toNat ≤ 16384)) ∧ getL getI e5.toNat l sc = (outs ++ (getL getI n.toNat l sk).1, (getL getI n.toNat l sk).2) ∧ OwnEls inEl W w.heap.size 50 v outs ∧ Rr W b A c l sk ∧ Gro b b w W) (fun i _ _ => (RowKit.intOf i).toNat)
  case atStart => exact ⟨e5, sc, [], .slice none 0 0, rfl, rfl, ⟨by simp, by simpa using hck.out⟩, by simp, OwnEls.nil _ _ _ _, by rw [← hwl]; exact hc1, by rw [← hwl]; exact G1⟩
  case round =>
    clear hwl
    obtain ⟨n, sk, outs, v, rfl, hov, ⟨hl1, hl2⟩, hgl, hE, hrrk, hGk⟩ := hrel
    replace hov := hov.symm
    subst hov
    have C2 := (hrrk.row.2 2 _ rfl).1
    have hqk := hid ((World.cell?_of_block (hGk.block q (cell_lt hq.out) hqb hqb)).trans hq.out)
    go_upto_region 5 with fail
    go_cut [36] (fun s36 wx => s36 = .bool (decide (0 < n ∧ sk.2 = 0)) ∧ wx = wr)
    case first =>
      by_cases hn : 0 < n
      · have jn : decide (0 < n) = true := decide_eq_true hn
        go_wp2_with fail
        go_meet
        exact ⟨congrArg Value.bool (by by_cases hz : sk.2 = 0 <;> simp [hn, hz]), rfl⟩
      · have jn : decide (0 < n) = false := decide_eq_false hn
        go_wp2_with fail
        go_meet
        exact ⟨congrArg Value.bool (decide_eq_false (fun hh => by omega)).symm, rfl⟩
    case rest =>
    obtain ⟨rfl, rfl⟩ := hcut
    clear C2
    by_cases hgo : 0 < n ∧ sk.2 = 0
    · rw [decide_eq_true hgo]
      obtain ⟨hn, hz⟩ := hgo
      obtain ⟨m, rfl⟩ : ∃ m : Nat, n = (m : Int) + 1 := ⟨(n - 1).toNat, by omega⟩
      have hm16 := hl2 hz
      have hgs : getL getI ((m : Int) + 1).toNat l sk = ((getI l sk).1 :: (getL getI m l (getI l sk).2).1, (getL getI m l (getI l sk).2).2) := by
        rw [show ((m : Int) + 1).toNat = m + 1 by omega]; exact getL_ok getI m l sk hz
      rw [hgs] at hgl
      clear hgs
      have KO := one_ins hrrk hqk.out hqb
      obtain ⟨y, s2, hy⟩ : ∃ y s2, getI l sk = (y, s2) := ⟨_, _, rfl⟩
      rw [hy] at KO hgl
      dsimp only at KO hgl
      have HGL := hid hgl
      clear hgl hy hz
      replace KO := hid KO
      have zg := hGk.size
      replace hl2 := hid hl2
      go_wp2_with fail
      refine KO.out.mono ?_
      rintro e w3 ⟨rfl, h3, G3⟩
      clear KO
      have hE3 : OwnEls inEl w3 w.heap.size 50 v outs := ⟨G3.own hE.1 hbw.out, fun a ha p hp => by cases hp⟩
      have b4 := below_alloc w3 (.cells #[.int .i64 y.1, .int .i64 y.2] 50)
      have hE4 := hE3.below b4
      have rB := rd_box w3 #[.int .i64 y.1, .int .i64 y.2] 50
      have h4 := h3.below b4
      have G4 := (hGk.trans G3).trans (Gro.of_below b4)
      have zB := Nat.le_trans (Nat.le_trans zg G3.size) b4.size
      replace h4 := hid h4
      replace G4 := hid G4
      clear b4 hE3 h3 G3 hE hrrk hGk
      go_wp2_with (at_builtin; refine wpList_app rfl (.tmp 39) (.tmp 42) 44 rfl w.heap.size 50 Tryd.underlying44 info_ins rfl (by decide) v outs.length (outs.flatMap inEl.cells) rfl hE4.1 (some ⟨w3.heap.size, 0, none⟩) 1 1 [.int .i64 y.1, .int .i64 y.2] rfl rfl rB (by intro u hu; simp at hu; rcases hu with rfl | rfl <;> rfl) (by omega) (by omega) zB ?_; intro v7 w7 own7 hg7 hat7)
      have h7 := h4.out.grown hg7 (fun e => by have := (own_lt hE4.1 e).1; have := hbw.out; omega) (fun hl ad ha e => by have h1 := (own_lt hE4.1 e).1; have h2 := hlt hl ad ha; omega)
      have G7 := G4.out.grown hg7 (fun k hk => (own_lt hE4.1 hk).1)
      have E7 : OwnEls inEl w7 w.heap.size 50 v7 (outs ++ [y]) := ⟨by rw [List.length_append, List.flatMap_append, show List.flatMap inEl.cells [y] = [.int .i64 y.1, .int .i64 y.2] from rfl]; exact own7, fun a ha p hp => by cases hp⟩
      have e6 : IntKind.i64.wrap ((m : Int) + 1 - 1) = m := by rw [show (m : Int) + 1 - 1 = m by omega]; exact wrap_of _ (by omega) (by omega)
      clear own7 hg7 hat7 hE4 rB zB
      go_roundw
      case rel => exact ⟨m, s2, outs ++ [y], v7, (by first | rfl | (congr 1)), rfl, ⟨by rw [List.length_append]; simp; omega, fun _ => by rw [List.length_append]; simp; omega⟩, by rw [HGL.out, List.append_assoc, Int.toNat_natCast]; rfl, E7, h7, G7⟩
      case measure => simp [RowKit.intOf]
    · rw [decide_eq_false hgo]
      have HEX : Hid (getL getI e5.toNat l sc = (outs, sk)) := by
        refine hid ?_
        rw [hgl]
        by_cases hz : sk.2 = 0
        · rw [show n.toNat = 0 by omega]; simp [getL]
        · rw [getL_err getI _ l sk hz]; simp
      clear hgl hgo
      go_wp2_with fail
      go_ret
      exact ⟨_, outs, rfl, by rw [HEX.out], hl1, hE, by rw [HEX.out]; exact hrrk, hGk⟩
end Go.Proofs.YtnkocbdbfkhgmaaDoor
