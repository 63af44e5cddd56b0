import Derived.Test.YtoceipdkmafagaaOpU
import Derived.Test.YtoceipdkmafagaaOpN
import Derived.Test.YtoceipdkmafagaaOpE
import Derived.Test.YtoceipdkmafagaaPlain1
/-! the ref's op: the operation of bytes -/
namespace Go.Proofs.Ytoceipdkmafagaa
open Go.RowKit Go.Cov
set_option maxRecDepth 100000 in
set_option maxHeartbeats 12800000 in
theorem rget_any {A : Option Addr} {c : Nat} {l : List UInt8} {w : World} (h : Rd w A (l.map byt)) (hc : l.length ≤ c) (hl : l.length ≤ 140737488351236) :
    Calls Try.prog 16 #[.slice A l.length c] w fun e w' => ∃ o : Oa, e = .returned (.tuple #[o.val, .int .i64 (readO l).2]) ∧ o.data = (readO l).1 ∧ OaOwn w' o ∧ Below w.heap.size w w' := by
  have hAl := rd_lt h
  have b1 := below_alloc w (.cells #[.int .i64 0, .string ⟨#[]⟩, .slice none 0 0, .string ⟨#[]⟩, .slice none 0 0, .int .i64 0, .slice none 0 0] 25)
  have R1 := Row.new w [.int .i64 0, .string ⟨#[]⟩, .slice none 0 0, .string ⟨#[]⟩, .slice none 0 0, .int .i64 0, .slice none 0 0] 25
  go_enter Try.func16, Try.ntmps16
  go_upto_region 1 with fail
  generalize hw1 : w.alloc _ = w1 at b1 R1 ⊢
  have n1 : w1.heap.size = w.heap.size + 1 := by rw [← hw1]; simp
  clear hw1
  have b2 := below_alloc w1 (.cells #[.slice A l.length c, .int .i64 0, .int .i64 0] 76)
  have R2 := Row.new w1 [.slice A l.length c, .int .i64 0, .int .i64 0] 76
  have R1' := R1.below b2
  go_upto_region 2 with fail
  generalize hw2 : w1.alloc _ = w2 at b2 R2 R1' ⊢
  have n2 : w2.heap.size = w.heap.size + 2 := by rw [← hw2]; simp [n1]
  clear hw2
  have b12 := below_step b1 b2
  rw [n1] at R2
  clear R1 b1 b2 n1
  have b3 := below_alloc w2 (.cells #[.int .i64 0, .string ⟨#[]⟩, .slice none 0 0, .string ⟨#[]⟩, .slice none 0 0, .int .i64 0, .slice none 0 0] 25)
  have R3 := Row.new w2 [.int .i64 0, .string ⟨#[]⟩, .slice none 0 0, .string ⟨#[]⟩, .slice none 0 0, .int .i64 0, .slice none 0 0] 25
  go_upto_region 3 with fail
  generalize hw3 : w2.alloc _ = w3 at b3 R3 ⊢
  clear hw3
  rw [n2] at R3
  have b13 := below_step b12 b3
  have hR : Rh w w3 w.heap.size (w.heap.size + 2) (w.heap.size + 1) [.int .i64 0, .string ⟨#[]⟩, .slice none 0 0, .string ⟨#[]⟩, .slice none 0 0, .int .i64 0, .slice none 0 0] [.int .i64 0, .string ⟨#[]⟩, .slice none 0 0, .string ⟨#[]⟩, .slice none 0 0, .int .i64 0, .slice none 0 0] A c l (0, 0) (fun _ => True) :=
    ⟨R1'.below b3, R3, ⟨R2.below b3, h.below b13, fun hn ad ha => by have := hAl hn ad ha; omega, hc, hl⟩, trivial, fun _ _ _ _ _ _ _ => trivial, by omega, hAl, b13⟩
  clear R1' R2 R3 b3 b12 n2 b13
  -- number 1
  go_wp2_with fail
  refine (rdnum_any hR.rr).mono ?_
  rintro e w3 ⟨rfl, h3, G3⟩
  replace hR := hR.next h3 G3
  obtain ⟨e1, s1, he1⟩ : ∃ e s, nx numR 0 l ((0 : Int), (0 : Int)) = (e, s) := ⟨_, _, rfl⟩
  rw [he1] at hR ⊢
  go_upto_region 4 with fail
  clear h3 G3
  -- text 2
  go_wp2_with fail
  refine (rdtext_any hR.rr).mono ?_
  rintro e w3 ⟨v2, rfl, o3, h3, G3⟩
  have z3 := hR.r2.1
  replace hR := hR.next h3 G3
  obtain ⟨e2, s2, he2⟩ : ∃ e s, nx bytesR [] l s1 = (e, s) := ⟨_, _, rfl⟩
  rw [he2] at hR o3
  obtain ⟨A2, c2, rfl, hc2, hm2, _⟩ := own_shape o3
  replace hR := hR.more (own_mono o3 z3) (fun k W1 W2 hk hG _ hx => keep_ownh hk hG hx)
  go_upto_region 5 with fail
  clear h3 G3 o3 z3
  -- text 3
  go_wp2_with fail
  refine (rdtext_any hR.rr).mono ?_
  rintro e w3 ⟨v3, rfl, o3, h3, G3⟩
  have z3 := hR.r2.1
  replace hR := hR.next h3 G3
  obtain ⟨e3, s3, he3⟩ : ∃ e s, nx bytesR [] l s2 = (e, s) := ⟨_, _, rfl⟩
  rw [he3] at hR o3
  obtain ⟨A3, c3, rfl, hc3, hm3, _⟩ := own_shape o3
  replace hR := hR.more (own_mono o3 z3) (fun k W1 W2 hk hG _ hx => keep_ownh hk hG hx)
  have C := hR.c2 2 _ rfl
  have F := hR.f2 2 _ rfl
  replace hR := hR.set 2 (by simp) (.slice A3 e3.length c3)
  go_upto_region 6 with fail
  clear C F h3 G3 o3 z3
  generalize World.setCell _ _ _ = w4 at hR ⊢
  simp only [List.set_cons_zero, List.set_cons_succ] at hR
  -- text 4
  go_wp2_with fail
  refine (rdtext_any hR.rr).mono ?_
  rintro e w3 ⟨v4, rfl, o3, h3, G3⟩
  have z3 := hR.r2.1
  replace hR := hR.next h3 G3
  obtain ⟨e4, s4, he4⟩ : ∃ e s, nx bytesR [] l s3 = (e, s) := ⟨_, _, rfl⟩
  rw [he4] at hR o3
  obtain ⟨A4, c4, rfl, hc4, hm4, _⟩ := own_shape o3
  replace hR := hR.more (own_mono o3 z3) (fun k W1 W2 hk hG _ hx => keep_ownh hk hG hx)
  go_upto_region 7 with fail
  clear h3 G3 o3 z3
  -- number 5
  go_wp2_with fail
  refine (rdnum_any hR.rr).mono ?_
  rintro e w3 ⟨rfl, h3, G3⟩
  replace hR := hR.next h3 G3
  obtain ⟨e5, s5, he5⟩ : ∃ e s, nx numR 0 l s4 = (e, s) := ⟨_, _, rfl⟩
  rw [he5] at hR ⊢
  go_upto_region 8 with fail
  clear h3 G3
  go_cut [39] (fun s39 wx => s39 = .bool (decide (s5.2 = 0 ∧ (e5 < 0 ∨ 16 < e5))) ∧ Rh w wx w.heap.size (w.heap.size + 2) (w.heap.size + 1) [.int .i64 0, .string ⟨#[]⟩, .slice none 0 0, .string ⟨#[]⟩, .slice none 0 0, .int .i64 0, .slice none 0 0] [.int .i64 0, .string ⟨#[]⟩, .slice A3 e3.length c3, .string ⟨#[]⟩, .slice none 0 0, .int .i64 0, .slice none 0 0] A c l s5 (fun W => ((True ∧ W.ownsRow (w.heap.size + 2 + 1) 5 1 (.slice A2 e2.length c2) e2.length (e2.map byt)) ∧ W.ownsRow (w.heap.size + 2 + 1) 5 1 (.slice A3 e3.length c3) e3.length (e3.map byt)) ∧ W.ownsRow (w.heap.size + 2 + 1) 5 1 (.slice A4 e4.length c4) e4.length (e4.map byt)))
  case first =>
    obtain ⟨p5, r5⟩ := s5
    have C2 := (hR.rr.row.2 2 _ rfl).1
    by_cases z5 : r5 = 0
    · subst z5
      by_cases n5 : e5 < 0
      · have j5 : decide (e5 < 0) = true := decide_eq_true n5
        go_wp2_with fail
        go_meet
        exact ⟨congrArg Value.bool (decide_eq_true ⟨trivial, .inl n5⟩).symm, hR⟩
      · have j5 : decide (e5 < 0) = false := decide_eq_false n5
        go_wp2_with fail
        go_meet
        exact ⟨congrArg Value.bool (decide_eq_decide.2 ⟨fun h => ⟨trivial, .inr h⟩, fun h => h.2.resolve_left (by omega)⟩), hR⟩
    · have y5 : (r5 == 0) = false := by simp [z5]
      go_wp2_with fail
      go_meet
      exact ⟨by simp [z5], hR⟩
  case rest =>
  clear hR
  obtain ⟨rfl, hR⟩ := hcut
  go_upto_if 39 with fail
  go_cut [9] (fun s9 wx => s9 = .int .i64 e5 ∧ Rh w wx w.heap.size (w.heap.size + 2) (w.heap.size + 1) [.int .i64 0, .string ⟨#[]⟩, .slice none 0 0, .string ⟨#[]⟩, .slice none 0 0, .int .i64 0, .slice none 0 0] [.int .i64 0, .string ⟨#[]⟩, .slice A3 e3.length c3, .string ⟨#[]⟩, .slice none 0 0, .int .i64 0, .slice none 0 0] A c l (chk 16 151 (e5, s5)) (fun W => ((True ∧ W.ownsRow (w.heap.size + 2 + 1) 5 1 (.slice A2 e2.length c2) e2.length (e2.map byt)) ∧ W.ownsRow (w.heap.size + 2 + 1) 5 1 (.slice A3 e3.length c3) e3.length (e3.map byt)) ∧ W.ownsRow (w.heap.size + 2 + 1) 5 1 (.slice A4 e4.length c4) e4.length (e4.map byt)))
  case first =>
    by_cases hz : s5.2 = 0 ∧ (e5 < 0 ∨ 16 < e5)
    · have hd : decide (s5.2 = 0 ∧ (e5 < 0 ∨ 16 < e5)) = true := decide_eq_true hz
      have F2 := (hR.rr.row.2 2 _ rfl).2
      have C2 := (hR.rr.row.2 2 _ rfl).1
      have hS := hR.err 151
      go_wp2_with fail
      go_meet
      refine ⟨rfl, ?_⟩
      unfold chk
      rw [if_pos hz]
      exact hS
    · have hd : decide (s5.2 = 0 ∧ (e5 < 0 ∨ 16 < e5)) = false := decide_eq_false hz
      go_wp2_with fail
      go_meet
      refine ⟨rfl, ?_⟩
      unfold chk
      rw [if_neg hz]
      exact hR
  case rest =>
  clear hR
  obtain ⟨rfl, hR⟩ := hcut
  have hck : (chk 16 151 (e5, s5)).2 = 0 → e5.toNat ≤ 16 := by
    unfold chk
    split
    · intro hh; exact absurd hh (show ¬ ((151 : Int) = 0) by decide)
    · rename_i hh; intro h0; dsimp only at hh h0; by_cases hx : 16 < e5; exact absurd ⟨h0, .inr hx⟩ hh; omega
  obtain ⟨sc, hsc⟩ : ∃ sc, sc = chk 16 151 (e5, s5) := ⟨_, rfl⟩
  rw [← hsc] at hR hck
  have HSC := hid hsc
  clear hsc
  obtain ⟨hr1, hr2, hrr, ⟨⟨⟨_, ox2⟩, ox3⟩, ox4⟩, _, _, _, hbl⟩ := hR
  obtain ⟨wl, hwl⟩ : ∃ wl, wl = wc := ⟨_, rfl⟩
  rw [← hwl] at hr1 hr2 hrr ox2 ox3 ox4 hbl
  have zl := hr2.1
  go_wp2_with fail
  go_loopw [10, 11] (fun i _ W => ∃ (k : Nat) (sk : Int × Int) (outs : List En) (v : Value), i = .int .i64 k ∧ (outs.length = k ∧ k ≤ 16 ∧ (sk.2 = 0 → k + (e5.toNat - k) ≤ 16)) ∧ getL getV e5.toNat l sc = (outs.map En.data ++ (getL getV (e5.toNat - k) l sk).1, (getL getV (e5.toNat - k) l sk).2) ∧ OwnEls enEl W wl.heap.size 29 v outs ∧ NewE enEl wl.heap.size outs ∧ Row W (w.heap.size + 2) [.int .i64 0, .string ⟨#[]⟩, .slice A3 e3.length c3, .string ⟨#[]⟩, v, .int .i64 0, .slice none 0 0] ∧ Rr W (w.heap.size + 1) A c l sk ∧ Gro (w.heap.size + 1) (w.heap.size + 2) wl W) (fun i _ _ => e5.toNat - (RowKit.intOf i).toNat)
  case atStart => exact ⟨0, sc, [], .slice none 0 0, rfl, ⟨rfl, by omega, by simpa using hck⟩, by simp, OwnEls.nil _ _ _ _, NewE.nil _ _, by rw [← hwl]; exact hr2, by rw [← hwl]; exact hrr, by rw [← hwl]; exact Gro.refl _ _ _⟩
  case round =>
    clear hwl
    obtain ⟨k, sk, outs, v, rfl, ⟨hl0, hl1, hl2⟩, hgl, hE, hN, hr2k, hrrk, hGk⟩ := hrel
    have C2 := (hrrk.row.2 2 _ rfl).1
    have zk := hr2k.1
    go_upto_region 11 with fail
    go_cut [52] (fun s52 wx => s52 = .bool (decide ((k : Int) < e5 ∧ sk.2 = 0)) ∧ wx = wr)
    case first =>
      by_cases hn : (k : Int) < e5
      · have jn : decide ((k : Int) < e5) = true := decide_eq_true hn
        go_wp2_with fail
        go_meet
        exact ⟨congrArg Value.bool (by by_cases hz : sk.2 = 0 <;> simp [hn, hz]), rfl⟩
      · have jn : decide ((k : Int) < e5) = false := decide_eq_false hn
        go_wp2_with fail
        go_meet
        exact ⟨congrArg Value.bool (decide_eq_false (fun hh => by omega)).symm, rfl⟩
    case rest =>
    obtain ⟨rfl, rfl⟩ := hcut
    clear C2
    by_cases hgo : (k : Int) < e5 ∧ sk.2 = 0
    · rw [decide_eq_true hgo]
      obtain ⟨hn, hz⟩ := hgo
      obtain ⟨m, hm⟩ : ∃ m : Nat, e5.toNat - k = m + 1 := ⟨e5.toNat - k - 1, by omega⟩
      have hm16 := hl2 hz
      rw [hm] at hm16
      have hm2 : e5.toNat - (k + 1) = m := by omega
      rw [hm, getL_ok getV m l sk hz] at hgl
      have HGL := hid hgl
      have HM := hid hm2
      have HL0 := hid hl0
      clear hgl hm hm2 hl0
      have hk16 : k < 16 := by omega
      go_wp2_with fail
      refine (rdvalue_any hrrk).mono ?_
      rintro e wx ⟨x, rfl, hx, ox, h3, G3⟩
      have q2 := hr2k.gro G3 (by omega)
      have qE := keep_els hE hN G3 (by omega)
      have GK := hGk.trans G3.lft
      have q3 := hid hx
      have zg := hGk.size
      have oxn := en_new (base' := wl.heap.size) ox zg
      have hoff0 := en_off ox hE.1 (Nat.le_refl _)
      clear hx
      -- the element's own variable
      have bv := below_alloc wx (.cells #[.int .i64 x.c, .int .i64 x.r, .slice x.A x.op.length x.cap] 29)
      have Rv := Row.new wx [.int .i64 x.c, .int .i64 x.r, .slice x.A x.op.length x.cap] 29
      go_upto_region 14 with fail
      generalize wx.alloc _ = wv at bv Rv ⊢
      replace q2 := q2.below bv
      replace qE := qE.below bv
      replace h3 := h3.below bv
      replace GK := GK.trans (Gro.of_below bv)
      replace hoff0 := hoff0.below bv
      have V0 := (Rv.2 0 _ rfl).1
      have V1 := (Rv.2 1 _ rfl).1
      have V2 := (Rv.2 2 _ rfl).1
      have C4 := (q2.2 4 _ rfl).1
      have bs := below_alloc wv (.cells #[.int .i64 x.c, .int .i64 x.r, .slice x.A x.op.length x.cap] 29)
      have rs := rd_box wv #[.int .i64 x.c, .int .i64 x.r, .slice x.A x.op.length x.cap] 29
      have q2b := q2.below bs
      have qEb := qE.below bs
      have h3b := h3.below bs
      have GKb := GK.trans (Gro.of_below bs)
      have hoffb := hoff0.below bs
      have zb := GKb.size
      have hol : outs.length ≤ 16 := by have := HL0.out; omega
      go_upto_region 12 with (at_builtin; refine wpList_app rfl (.tmp 58) (.tmp 60) 23 rfl wl.heap.size 29 Try.underlying23 infoV rfl (by decide) v outs.length (outs.flatMap enEl.cells) rfl qEb.1 (some ⟨wv.heap.size, 0, none⟩) 1 1 [.int .i64 x.c, .int .i64 x.r, .slice x.A x.op.length x.cap] rfl rfl rs (by intro u hu; simp at hu; rcases hu with rfl | rfl | rfl <;> rfl) (by omega) (by omega) zb ?_; intro v5 w5 own5 hg5 hat5; have pE := OwnEls.app (ys := [x]) qEb.2 hoffb own5 hg5 hat5; obtain ⟨A5, c5, rfl, _⟩ := own_shape own5; have p2 := q2b.grown hg5 (fun e => by have := (own_lt qEb.1 e).1; omega); have prr := h3b.grown hg5 (fun e => by have := (own_lt qEb.1 e).1; omega) (fun hl ad ha e => by have h1 := (own_lt qEb.1 e).1; have h2 := hAl hl ad ha; omega); have pG := GKb.grown hg5 (fun k hk => (own_lt qEb.1 hk).1); have D4 := (p2.2 4 _ rfl).1; have F4 := (p2.2 4 _ rfl).2)
      have gs := Gro.set (w.heap.size + 2) (w.heap.size + 2) 4 w5 (.slice A5 (outs.length + 1) c5)
      have r2n := p2.set 4 (by simp) (.slice A5 (outs.length + 1) c5)
      simp only [List.set_cons_zero, List.set_cons_succ] at r2n
      have rrn := prr.new' gs (by omega) (fun hl ad ha => by have := hAl hl ad ha; omega)
      have hNn := hN.app oxn
      have En' := keep_els pE hNn gs (by omega)
      have Gn := pG.trans gs.rgt
      clear C4 D4 F4 V0 V1 V2
      generalize World.setCell _ _ _ = w6 at r2n rrn En' Gn ⊢
      go_wp2_with fail
      go_roundw
      case rel => exact ⟨k + 1, (getV l sk).2, outs ++ [x], _, by go_num, ⟨by rw [List.length_append, HL0.out]; rfl, by omega, fun _ => by rw [HM.out]; omega⟩, by rw [HGL.out, List.map_append, List.append_assoc, HM.out, ← q3.out]; rfl, En', hNn, r2n, rrn, Gn⟩
      case measure => simp [RowKit.intOf]; omega
    · rw [decide_eq_false hgo]
      have HEX : Hid (getL getV e5.toNat l sc = (outs.map En.data, sk)) := by
        refine hid ?_
        rw [hgl]
        by_cases hz : sk.2 = 0
        · rw [show e5.toNat - k = 0 by omega]; simp [getL]
        · rw [getL_err getV _ l sk hz]; simp
      have hol : outs.length ≤ 16 := by omega
      clear hgl hgo hl0
      have hR : Rh w wc w.heap.size (w.heap.size + 2) (w.heap.size + 1) [.int .i64 0, .string ⟨#[]⟩, .slice none 0 0, .string ⟨#[]⟩, .slice none 0 0, .int .i64 0, .slice none 0 0] [.int .i64 0, .string ⟨#[]⟩, .slice A3 e3.length c3, .string ⟨#[]⟩, v, .int .i64 0, .slice none 0 0] A c l sk (fun W => ((W.ownsRow (w.heap.size + 2 + 1) 5 1 (.slice A2 e2.length c2) e2.length (e2.map byt) ∧ W.ownsRow (w.heap.size + 2 + 1) 5 1 (.slice A3 e3.length c3) e3.length (e3.map byt)) ∧ W.ownsRow (w.heap.size + 2 + 1) 5 1 (.slice A4 e4.length c4) e4.length (e4.map byt)) ∧ OwnEls enEl W wl.heap.size 29 v outs) :=
        ⟨hr1.gro2 hGk (by omega) (by omega), hr2k, hrrk, ⟨⟨⟨hGk.own2 ox2 (by omega) (by omega), hGk.own2 ox3 (by omega) (by omega)⟩, hGk.own2 ox4 (by omega) (by omega)⟩, hE⟩, fun k W1 W2 hk hG _ hx => ⟨⟨⟨keep_ownh hk hG hx.1.1.1, keep_ownh hk hG hx.1.1.2⟩, keep_ownh hk hG hx.1.2⟩, keep_els hx.2 hN hG (by omega)⟩, by omega, hAl, hbl.trans (hGk.below (by omega) (by omega) hbl.size)⟩
      clear hr2k hrrk hE
      -- number 6
      go_wp2_with fail
      refine (rdnum_any hR.rr).mono ?_
      rintro e w3 ⟨rfl, h3, G3⟩
      replace hR := hR.next h3 G3
      obtain ⟨e6, s6, he6⟩ : ∃ e s, nx numR 0 l sk = (e, s) := ⟨_, _, rfl⟩
      rw [he6] at hR ⊢
      have C := hR.c2 5 _ rfl
      have F := hR.f2 5 _ rfl
      replace hR := hR.set 5 (by simp) (.int .i64 e6)
      go_upto_region 16 with fail
      clear C F h3 G3
      generalize World.setCell _ _ _ = w4 at hR ⊢
      simp only [List.set_cons_zero, List.set_cons_succ] at hR
      -- text 7
      go_wp2_with fail
      refine (rdtext_any hR.rr).mono ?_
      rintro e w3 ⟨v7, rfl, o3, h3, G3⟩
      have z3 := hR.r2.1
      replace hR := hR.next h3 G3
      obtain ⟨e7, s7, he7⟩ : ∃ e s, nx bytesR [] l s6 = (e, s) := ⟨_, _, rfl⟩
      rw [he7] at hR o3
      obtain ⟨A7, c7, rfl, hc7, hm7, _⟩ := own_shape o3
      replace hR := hR.more (own_mono o3 z3) (fun k W1 W2 hk hG _ hx => keep_ownh hk hG hx)
      have C := hR.c2 6 _ rfl
      have F := hR.f2 6 _ rfl
      replace hR := hR.set 6 (by simp) (.slice A7 e7.length c7)
      go_upto_region 17 with fail
      clear C F h3 G3 o3 z3
      generalize World.setCell _ _ _ = w4 at hR ⊢
      simp only [List.set_cons_zero, List.set_cons_succ] at hR
      -- kind, name, function
      obtain ⟨⟨⟨⟨ox2', ox3'⟩, ox4'⟩, hE⟩, ox7⟩ := hR.x
      have CV2 := conv_text w4 (own_rd ox2') c2
      have C := hR.c2 0 _ rfl
      have F := hR.f2 0 _ rfl
      replace hR := hR.set 0 (by simp) (.int .i64 e1)
      go_upto_region 18 with fail
      clear C F CV2
      generalize World.setCell _ _ _ = w4 at hR ⊢
      simp only [List.set_cons_zero] at hR
      have CV2 := conv_text w4 (own_rd hR.x.1.1.1.1) c2
      have C := hR.c2 1 _ rfl
      have F := hR.f2 1 _ rfl
      replace hR := hR.set 1 (by simp) (.string (str e2))
      go_upto_region 19 with fail
      clear C F CV2
      generalize World.setCell _ _ _ = w4 at hR ⊢
      simp only [List.set_cons_zero, List.set_cons_succ] at hR
      have CV2 := conv_text w4 (own_rd hR.x.1.1.2) c4
      have C := hR.c2 3 _ rfl
      have F := hR.f2 3 _ rfl
      replace hR := hR.set 3 (by simp) (.string (str e4))
      go_upto_region 20 with fail
      clear C F CV2 hE ox2' ox3' ox4' ox7
      generalize World.setCell _ _ _ = w4 at hR ⊢
      simp only [List.set_cons_zero, List.set_cons_succ] at hR
      obtain ⟨⟨⟨⟨_, ox3'⟩, _⟩, hE⟩, ox7⟩ := hR.x
      obtain ⟨Av, cv, rfl, hcv, hmv, hEl⟩ := hE.rd
      have hO : OaOwn w4 ⟨e1, e2, A3, c3, e3, e4, Av, cv, outs, e6, A7, c7, e7⟩ := ⟨⟨own_rd ox3', hEl, own_rd ox7, by show outs.length ≤ maxLen; unfold maxLen; omega⟩, ⟨hc3, hm3⟩, ⟨hc7, hm7⟩⟩
      clear ox3' hE hEl ox7
      obtain ⟨o, ho⟩ : ∃ o : Oa, o = ⟨e1, e2, A3, c3, e3, e4, Av, cv, outs, e6, A7, c7, e7⟩ := ⟨_, rfl⟩
      replace hO : OaOwn w4 o := ho ▸ hO
      have hOd : o.data = (e1, e2, e3, e4, outs.map En.data, e6, e7) := by rw [ho]; rfl
      have hOv : o.val = .agg #[.int .i64 e1, .string (str e2), .slice A3 e3.length c3, .string (str e4), .slice Av outs.length cv, .int .i64 e6, .slice A7 e7.length c7] := by rw [ho]; rfl
      replace ho := hid ho
      replace hOv := hid hOv
      replace hOd := hid hOd
      have eG : Hid (getO l (0, 0) = (o.data, s7)) := by
        refine hid ?_
        rw [hOd.out]
        unfold getO
        have q := HEX.out
        have hc := HSC.out
        simp only [sq, he1, he2, he3, he4, cnt, he5, ← hc, q, he6, he7]
      have hrd : Hid (readO l = (if s7.2 = 0 then (if s7.1 = l.length ∧ rightO o.data = true then (o.data, 0) else (zeroO, 151)) else (zeroO, s7.2))) := by
        refine hid ?_
        unfold readO whole
        rw [eG.out]
      clear eG
      have C2 := (hR.rr.row.2 2 _ rfl).1
      obtain ⟨p7, r7⟩ := s7
      dsimp only at hrd C2
      by_cases hz : r7 = 0
      case neg =>
        have jz : (r7 != 0) = true := by simp [hz]
        go_upto_region 21 with fail
        have bcur := (Below.refl w4.heap.size w4).drew
        have hRd := hR.on bcur
        refine wp_region_noPanic ?_
        refine wp_region_held_drew (S := (fun W => W.cell? ⟨w.heap.size + 1, 2, none⟩ = some (.int .i64 r7))) (by kernel_rfl) ?_ (fun hHeld => ?_)
        · exact C2
        refine wpAnyH_take (i := 0) (oi := ?oi1) (v := ?v1) ?hi1 (by kernel_rfl) (by kernel_rfl) (by kernel_rfl) ?hQ1 ?hy1 (by assumption) ?hrest1
        case hi1 => (simp only [List.getElem?_toArray, List.getElem?_cons_zero]; try rfl)
        case hQ1 => exact fun _ _ _ h => h
        case hy1 =>
          refine Or.inl ⟨by rfl, ?_⟩
          (intro wq hSw; (try dsimp only at hSw); go_simp; try with_reducible rfl)
        (try simp only [Act.put, List.setIfInBounds_toArray, List.set_cons_zero, List.set_cons_succ])
        refine wpAnyH_take (i := 1) (oi := ?oi2) (v := ?v2) ?hi2 (by kernel_rfl) (by kernel_rfl) (by kernel_rfl) ?hQ2 ?hy2 (by assumption) ?hrest2
        case hi2 => (simp only [List.getElem?_toArray, List.getElem?_cons_succ, List.getElem?_cons_zero]; try rfl)
        case hQ2 => exact fun _ _ _ h => h
        case hy2 =>
          refine Or.inl ⟨by rfl, ?_⟩
          (intro wq hSw; (try dsimp only at hSw); go_simp; try with_reducible rfl)
        (try simp only [Act.put, List.setIfInBounds_toArray, List.set_cons_zero, List.set_cons_succ])
        refine wpAnyH_take (i := 2) (oi := ?oi3) (v := ?v3) ?hi3 (by kernel_rfl) (by kernel_rfl) (by kernel_rfl) ?hQ3 ?hy3 (by assumption) ?hrest3
        case hi3 => (simp only [List.getElem?_toArray, List.getElem?_cons_succ, List.getElem?_cons_zero]; try rfl)
        case hQ3 => exact fun _ _ _ h => h
        case hy3 =>
          refine Or.inl ⟨by rfl, ?_⟩
          (intro wq hSw; (try dsimp only at hSw); go_simp; try with_reducible rfl)
        (try simp only [Act.put, List.setIfInBounds_toArray, List.set_cons_zero, List.set_cons_succ])
        refine wpAnyH_take (i := 3) (oi := ?oi4) (v := ?v4) ?hi4 (by kernel_rfl) (by kernel_rfl) (by kernel_rfl) ?hQ4 ?hy4 (by assumption) ?hrest4
        case hi4 => (simp only [List.getElem?_toArray, List.getElem?_cons_succ, List.getElem?_cons_zero]; try rfl)
        case hQ4 => exact fun _ _ _ h => h
        case hy4 =>
          refine Or.inl ⟨by rfl, ?_⟩
          (intro wq hSw; (try dsimp only at hSw); go_simp; try with_reducible rfl)
        (try simp only [Act.put, List.setIfInBounds_toArray, List.set_cons_zero, List.set_cons_succ])
        refine wpAnyH_take (i := 4) (oi := ?oi5) (v := ?v5) ?hi5 (by kernel_rfl) (by kernel_rfl) (by kernel_rfl) ?hQ5 ?hy5 (by assumption) ?hrest5
        case hi5 => (simp only [List.getElem?_toArray, List.getElem?_cons_succ, List.getElem?_cons_zero]; try rfl)
        case hQ5 => exact fun _ _ _ h => h
        case hy5 =>
          refine Or.inl ⟨by rfl, ?_⟩
          (intro wq hSw; (try dsimp only at hSw); go_simp; try with_reducible rfl)
        (try simp only [Act.put, List.setIfInBounds_toArray, List.set_cons_zero, List.set_cons_succ])
        refine wpAnyH_ready (rs := [5]) (by kernel_rfl) (by simp) ?_
        refine AllReadyH.cons (o := ?oi6) ?hi6 (fun K hK => ?hstep6) AllReadyH.nil
        case hi6 => (simp only [List.getElem?_toArray, List.getElem?_cons_succ, List.getElem?_cons_zero]; try rfl)
        (refine oper_store_mid rfl 25 (.tmp 2) (.tmp 82) rfl w.heap.size [.int .i64 0, .string ⟨#[]⟩, .slice none 0 0, .string ⟨#[]⟩, .slice none 0 0, .int .i64 0, .slice none 0 0] _ rfl rfl hRd.r1 rfl (by kernel_rfl) (by decide) ?_; have RR := hRd.r1.setCells (us := [.int .i64 0, .string ⟨#[]⟩, .slice none 0 0, .string ⟨#[]⟩, .slice none 0 0, .int .i64 0, .slice none 0 0]) rfl; have bb := below_setCells hRd.below (Nat.le_refl _) [.int .i64 0, .string ⟨#[]⟩, .slice none 0 0, .string ⟨#[]⟩, .slice none 0 0, .int .i64 0, .slice none 0 0])
        refine hK.out _ _ ?_ (fun hHeld => ?_)
        · exact (World.cell?_of_block (a := ⟨w.heap.size + 1, 2, none⟩) (heap_setCells (by show w.heap.size + 1 ≠ w.heap.size; omega) _ _ _)).trans C2
        clear hK K
        (try dsimp only)
        refine wpAnyH_take (i := 6) (oi := ?oi7) (v := ?v7) ?hi7 (by kernel_rfl) (by kernel_rfl) (by kernel_rfl) ?hQ7 ?hy7 (by assumption) ?hrest7
        case hi7 => (simp only [List.getElem?_toArray, List.getElem?_cons_succ, List.getElem?_cons_zero]; try rfl)
        case hQ7 => exact fun _ _ _ h => h
        case hy7 =>
          refine Or.inl ⟨by rfl, ?_⟩
          (intro wq hSw; (try dsimp only at hSw); go_simp; try with_reducible rfl)
        (try simp only [Act.put, List.setIfInBounds_toArray, List.set_cons_zero, List.set_cons_succ])
        refine wpAnyH_done (by kernel_rfl) ?_ _
        refine NoPanic.normal ?_
        (generalize World.setCells _ _ _ _ = w7 at RR bb ⊢; (go_wp2_with fail); refine bodyPost_ret (results_cell2 (k := 2) (k2 := 3) (t := 25) Try.results16 rfl rfl RR Try.underlying25 rfl (by kernel_rfl)) rfl ?_; have h9 := hrd.out; rw [if_neg hz] at h9; exact ⟨zeroOa, by rw [h9]; rfl, by rw [h9]; rfl, zeroOa_own _, bb⟩)
      subst hz
      have C0 := hR.c2 0 _ rfl
      have C1 := hR.c2 1 _ rfl
      have C2 := hR.c2 2 _ rfl
      have C3 := hR.c2 3 _ rfl
      have C4 := hR.c2 4 _ rfl
      have C5 := hR.c2 5 _ rfl
      have C6 := hR.c2 6 _ rfl
      have hRT := rright_any o hO.rd
      rw [hOv.out] at hRT
      replace hRT := hid hRT
      go_wp2_with fail
      refine hRT.out.mono ?_
      rintro e w5 ⟨rfl, hb5⟩
      replace hR := hR.on hb5
      clear C0 C1 C2 C3 C4 C5 C6 hRT hO
      have C1 := (hR.rr.row.2 1 _ rfl).1
      obtain ⟨ro, hro⟩ : ∃ ro, ro = rightO o.data := ⟨_, rfl⟩
      rw [← hro] at hrd ⊢
      replace hro := hid hro
      go_upto_region 23 with fail
      go_cut [99] (fun s99 wx => s99 = .bool (!decide (p7 = (l.length : Int) ∧ ro = true)) ∧ wx = w5)
      case first =>
        by_cases hp : p7 = l.length
        · have jp : (p7 != (l.length : Int)) = false := by simp [hp]
          have hp := hid hp
          go_wp2_with fail
          go_meet
          exact ⟨congrArg Value.bool (by cases ro <;> simp [hp.out]), rfl⟩
        · have jp : (p7 != (l.length : Int)) = true := by simp [hp]
          go_wp2_with fail
          go_meet
          exact ⟨congrArg Value.bool (by rw [decide_eq_false (fun hh => hp hh.1)]; rfl), rfl⟩
      case rest =>
      obtain ⟨rfl, rfl⟩ := hcut
      clear C1
      have C0 := hR.c2 0 _ rfl
      have C1 := hR.c2 1 _ rfl
      have C2 := hR.c2 2 _ rfl
      have C3 := hR.c2 3 _ rfl
      have C4 := hR.c2 4 _ rfl
      have C5 := hR.c2 5 _ rfl
      have C6 := hR.c2 6 _ rfl
      have D0 := hR.c1 0 _ rfl
      have F0 := hR.f1 0 _ rfl
      have D1 := hR.c1 1 _ rfl
      have F1 := hR.f1 1 _ rfl
      have D2 := hR.c1 2 _ rfl
      have F2 := hR.f1 2 _ rfl
      have D3 := hR.c1 3 _ rfl
      have F3 := hR.f1 3 _ rfl
      have D4 := hR.c1 4 _ rfl
      have F4 := hR.f1 4 _ rfl
      have D5 := hR.c1 5 _ rfl
      have F5 := hR.f1 5 _ rfl
      have D6 := hR.c1 6 _ rfl
      have F6 := hR.f1 6 _ rfl
      by_cases hp : p7 = (l.length : Int) ∧ ro = true
      · rw [decide_eq_true hp]
        have h9 := hrd.out
        rw [if_pos trivial, if_pos hp] at h9
        replace h9 := hid h9
        clear hp
        have hF := (((((((hR.set1 0 (by simp) (.int .i64 e1)).set1 1 (by simp) (.string (str e2))).set1 2 (by simp) (.slice A3 e3.length c3)).set1 3 (by simp) (.string (str e4))).set1 4 (by simp) (.slice Av outs.length cv)).set1 5 (by simp) (.int .i64 e6)).set1 6 (by simp) (.slice A7 e7.length c7))
        simp only [List.set_cons_zero, List.set_cons_succ] at hF
        go_wp2_with fail
        clear C0 C1 C2 C3 C4 C5 C6 D0 F0 D1 F1 D2 F2 D3 F3 D4 F4 D5 F5 D6 F6
        generalize World.setCell _ _ _ = w7 at hF ⊢
        obtain ⟨⟨⟨⟨_, ox3⟩, _⟩, hE⟩, ox7⟩ := hF.x
        refine bodyPost_ret (results_cell2 (k := 2) (k2 := 3) (t := 25) Try.results16 rfl rfl hF.r1 Try.underlying25 rfl (by kernel_rfl)) rfl ?_
        refine ⟨o, by rw [h9.out, hOv.out]; rfl, by rw [h9.out], ?_, hF.below⟩
        rw [ho.out]
        exact ⟨⟨own_rd ox3, ⟨own_rd hE.1, fun a ha p hp => (hE.2 a ha p hp).1⟩, own_rd ox7, by show outs.length ≤ maxLen; unfold maxLen; omega⟩, ⟨hc3, hm3⟩, ⟨hc7, hm7⟩⟩
      · rw [decide_eq_false hp]
        have h9 := hrd.out
        rw [if_pos trivial, if_neg hp] at h9
        replace h9 := hid h9
        clear hp
        have hF := (((((((hR.set1 0 (by simp) (.int .i64 0)).set1 1 (by simp) (.string ⟨#[]⟩)).set1 2 (by simp) (.slice none 0 0)).set1 3 (by simp) (.string ⟨#[]⟩)).set1 4 (by simp) (.slice none 0 0)).set1 5 (by simp) (.int .i64 0)).set1 6 (by simp) (.slice none 0 0))
        simp only [List.set_cons_zero, List.set_cons_succ] at hF
        go_wp2_with fail
        clear C0 C1 C2 C3 C4 C5 C6 D0 F0 D1 F1 D2 F2 D3 F3 D4 F4 D5 F5 D6 F6
        generalize World.setCell _ _ _ = w7 at hF ⊢
        refine bodyPost_ret (results_cell2 (k := 2) (k2 := 3) (t := 25) Try.results16 rfl rfl hF.r1 Try.underlying25 rfl (by kernel_rfl)) rfl ?_
        exact ⟨zeroOa, by rw [h9.out]; rfl, by rw [h9.out]; rfl, zeroOa_own _, hF.below⟩
end Go.Proofs.Ytoceipdkmafagaa