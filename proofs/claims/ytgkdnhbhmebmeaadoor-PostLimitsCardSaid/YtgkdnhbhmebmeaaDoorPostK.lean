import Derived.Test.YtgkdnhbhmebmeaaDoorPostJ
/-! post: the message of bytes -/
namespace Go.Proofs.YtgkdnhbhmebmeaaDoor
open Go.RowKit Go.Cov
def readS (l : List UInt8) : MD × Int := if openE l = 0 then readM (openL l) else (zeroM, openE l)
def zeroMa : Ma := ⟨zero10, none, 0, [], false, 0, none, 0, [], none, 0, []⟩
theorem zeroMa_rd (w : World) : MaRd w zeroMa := ⟨Rd.nil _ _, Els.nil _ _ _, Rd.nil _ _, by decide, by decide, by decide⟩
set_option maxRecDepth 100000 in
set_option maxHeartbeats 25600000 in
theorem getmsg_any {A : Option Addr} {c : Nat} {l : List UInt8} {w : World} (h : Rd w A (l.map byt)) (hc : l.length ≤ c) (hl : l.length ≤ 140737488351236) (ht : Tab w) :
    Calls Tryd.prog 13 #[.slice A l.length c] w fun e w' => ∃ o : Ma, e = .returned (.tuple #[o.val, .int .i64 (readS l).2]) ∧ o.data = (readS l).1 ∧ MaRd w' o ∧ Below w.heap.size w w' := by
  have b1 := below_alloc w (.cells zeroMa.cells.toArray 28)
  have R1 := Row.new w zeroMa.cells 28
  have KO := open_any (h.below b1) hc hl (ht.below b1)
  unfold zeroMa Ma.cells zero10 at b1 R1 KO
  dsimp only [List.length_nil, Int.natCast_zero] at b1 R1 KO
  replace KO := hid KO
  go_enter Tryd.func13, Tryd.ntmps13
  go_upto_region 1 with fail
  generalize hw1 : w.alloc _ = w1 at b1 R1 KO ⊢
  have n1 := hid (show w1.heap.size = w.heap.size + 1 by rw [← hw1]; simp)
  clear hw1
  go_wp2_with fail
  refine KO.out.mono ?_
  rintro e w2 ⟨v2, rfl, own2, hb2⟩
  clear KO
  obtain ⟨A2, c2, rfl, hc2, hm2, hn2⟩ := own_shape own2
  have R2 := R1.below hb2
  have b2 := below_step b1 hb2
  have z2 : w1.heap.size ≤ w2.heap.size := hb2.size
  by_cases hz : openE l = 0
  · have hrs := hid (show readS l = readM (openL l) by unfold readS; rw [if_pos hz])
    have hlo : (openL l).length ≤ 140737488351236 := by unfold openL; split; simp; split; (rw [List.length_drop]; omega); simp
    have rd2 := own_rd own2
    rw [hz]
    clear hz own2
    generalize openL l = lo at hrs hlo rd2 hc2 hm2 hn2 ⊢
    have hP := pg_new 28 2 53 R2 rd2 hc2 hlo b2 (Nat.le_refl _)
    replace hP := hid hP
    go_upto_region 7 with fail
    replace hP := hP.out
    generalize World.alloc _ (.cells #[.slice A2 lo.length c2, .int .i64 0, .int .i64 0] 53) = w3 at hP ⊢
    clear rd2 R2 b2 hc2 hm2 hn2
    have zP := hP.rr.row.1
    have nP : w.heap.size < w2.heap.size := hP.ord.2.1
    -- ten numbers
    have bT := below_alloc w3 (.cells #[.pointer (some ⟨w2.heap.size + 1, 0, none⟩), .pointer (some ⟨w2.heap.size + 2, 0, none⟩), .pointer (some ⟨w2.heap.size + 3, 0, none⟩), .pointer (some ⟨w2.heap.size, 3, none⟩), .pointer (some ⟨w2.heap.size, 4, none⟩), .pointer (some ⟨w2.heap.size, 5, none⟩), .pointer (some ⟨w2.heap.size, 6, none⟩), .pointer (some ⟨w2.heap.size, 7, none⟩), .pointer (some ⟨w2.heap.size, 8, none⟩), .pointer (some ⟨w2.heap.size, 9, none⟩)] 56)
    have rT := rd_box w3 #[.pointer (some ⟨w2.heap.size + 1, 0, none⟩), .pointer (some ⟨w2.heap.size + 2, 0, none⟩), .pointer (some ⟨w2.heap.size + 3, 0, none⟩), .pointer (some ⟨w2.heap.size, 3, none⟩), .pointer (some ⟨w2.heap.size, 4, none⟩), .pointer (some ⟨w2.heap.size, 5, none⟩), .pointer (some ⟨w2.heap.size, 6, none⟩), .pointer (some ⟨w2.heap.size, 7, none⟩), .pointer (some ⟨w2.heap.size, 8, none⟩), .pointer (some ⟨w2.heap.size, 9, none⟩)] 56
    have K := hid (pg_num (hP.on bT) (cT := 10) (js := [15, 16, 17, 3, 4, 5, 6, 7, 8, 9]) 10 rfl (by omega) rT zP (by show ∀ j ∈ [15, 16, 17, 3, 4, 5, 6, 7, 8, 9], j < 19; decide) (into10 ..) pl_in)
    clear bT rT hP
    go_wp2_with fail
    refine K.out.mono ?_
    rintro e w4 ⟨r, rfl, hP⟩
    clear K zP
    obtain ⟨n, s1, g1⟩ : ∃ n s1, get10 lo ((0 : Int), (0 : Int)) = (n, s1) := ⟨_, _, rfl⟩
    rw [g1] at hP
    dsimp only at hP
    -- the body
    have zP := hP.rr.row.1
    have bT := below_alloc w4 (.cells #[.pointer (some ⟨w2.heap.size, 10, none⟩)] 59)
    have rT := rd_box w4 #[.pointer (some ⟨w2.heap.size, 10, none⟩)] 59
    have K := hid (pg_text (hP.on bT) (cT := 1) (j := 10) rT zP rfl)
    go_wp2_with fail
    refine K.out.mono ?_
    rintro e w5 ⟨r5, v5, rfl, own5, hQ⟩
    clear K hP bT rT
    obtain ⟨e5, s5, g5⟩ : ∃ e s, nx bytesR [] lo s1 = (e, s) := ⟨_, _, rfl⟩
    rw [g5] at hQ own5
    dsimp only at hQ own5
    obtain ⟨A5, c5, rfl, hc5, hm5, _⟩ := own_shape own5
    rw [pl_set10] at hQ
    replace hQ := hQ.more (own_mono own5 (show w2.heap.size + 5 + 1 ≤ _ by rw [size_alloc1]; omega)) (fun W1 W2 hG hs hy => keep_own' hG hy)
    clear own5 zP
    -- has
    have zP := hQ.rr.row.1
    have bT := below_alloc w5 (.cells #[.pointer (some ⟨w2.heap.size, 11, none⟩)] 62)
    have rT := rd_box w5 #[.pointer (some ⟨w2.heap.size, 11, none⟩)] 62
    have K := hid (pg_bool (hQ.on bT) (cT := 1) (js := [11]) 1 rfl (by omega) rT zP (by show ∀ j ∈ [11], j < 19; decide) (into_has ..) pl_in)
    clear bT rT hQ
    go_wp2_with fail
    refine K.out.mono ?_
    rintro e w6 ⟨r6, rfl, hP⟩
    clear K zP
    obtain ⟨e6, s6, g6⟩ : ∃ e s, nx boolR false lo s5 = (e, s) := ⟨_, _, rfl⟩
    rw [g6] at hP
    dsimp only at hP
    -- the log's start, and how many
    have zP := hP.rr.row.1
    have bT := below_alloc w6 (.cells #[.pointer (some ⟨w2.heap.size, 12, none⟩), .pointer (some ⟨w2.heap.size + 4, 0, none⟩)] 56)
    have rT := rd_box w6 #[.pointer (some ⟨w2.heap.size, 12, none⟩), .pointer (some ⟨w2.heap.size + 4, 0, none⟩)] 56
    have K := hid (pg_num (hP.on bT) (cT := 2) (js := [12, 18]) 2 rfl (by omega) rT zP (by show ∀ j ∈ [12, 18], j < 19; decide) (into_many ..) pl_in)
    clear bT rT hP
    go_wp2_with fail
    refine K.out.mono ?_
    rintro e w7 ⟨r7, rfl, hP⟩
    clear K zP
    obtain ⟨e7, s7, g7⟩ : ∃ e s, nx numR 0 lo s6 = (e, s) := ⟨_, _, rfl⟩
    rw [g7] at hP
    dsimp only at hP
    obtain ⟨mn, s8, g8⟩ : ∃ e s, nx numR 0 lo s7 = (e, s) := ⟨_, _, rfl⟩
    rw [g8] at hP
    dsimp only at hP
    go_upto_region 11 with fail
    replace hP := hid hP
    go_cut [58] (fun s58 wx => s58 = .bool (decide (s8.2 = 0 ∧ (mn < 0 ∨ 64 < mn))) ∧ Pg w wx w.heap.size w2.heap.size (w2.heap.size + 5) [.int .i64 0, .int .i64 0, .int .i64 0, .int .i64 0, .int .i64 0, .int .i64 0, .int .i64 0, .int .i64 0, .int .i64 0, .int .i64 0, .slice none 0 0, .bool false, .int .i64 0, .slice none 0 0, .slice none 0 0] (pl w2.heap.size n (.slice A5 e5.length c5) e6 e7 (.slice none 0 0) (.slice none 0 0) mn) A2 c2 lo s8 (fun W => True ∧ W.ownsRow (w2.heap.size + 5 + 1) 5 1 (.slice A5 e5.length c5) e5.length (e5.map byt)))
    case first =>
      replace hP := hP.out
      obtain ⟨p8, r8⟩ := s8
      have C2 := (hP.rr.row.2 2 _ rfl).1
      by_cases z8 : r8 = 0
      · subst z8
        have CM := hP.cell 18 rfl
        have bT := below_alloc w7 (.cells #[.int .i64 mn] 2)
        have rT := rd_box w7 #[.int .i64 mn] 2
        have hP' := hP.on bT
        have KK := between_i64 (c := 1) (ns := [mn]) 0 64 1 rfl rT (by omega)
        obtain ⟨x, hx⟩ : ∃ x, betw 0 64 [mn] = x := ⟨_, rfl⟩
        rw [hx] at KK
        have hx2 : x = decide (0 ≤ mn ∧ mn ≤ 64) := by rw [← hx, betw1]
        have hx3 : (!x) = decide ((0 : Int) = 0 ∧ (mn < 0 ∨ 64 < mn)) := by
          rw [hx2, ← decide_not]; exact decide_eq_decide.2 ⟨fun h => ⟨rfl, by omega⟩, fun h => by omega⟩
        replace hx3 := hid hx3
        clear hx hx2 hP rT
        replace hP' := hid hP'
        replace KK := hid KK
        go_wp2_with fail
        refine KK.out.mono ?_
        rintro e wz ⟨rfl, rfl⟩
        clear KK
        go_wp2_with fail
        go_meet
        exact ⟨congrArg Value.bool hx3.out, hP'.out⟩
      · have y8 : (r8 == 0) = false := by simp [z8]
        replace hP := hid hP
        go_wp2_with fail
        go_meet
        exact ⟨by simp [z8], hP.out⟩
    case rest =>
    clear hP
    obtain ⟨rfl, hP⟩ := hcut
    replace hP := hid hP
    go_upto_if 58 with fail
    go_cut [] (fun wx => Pg w wx w.heap.size w2.heap.size (w2.heap.size + 5) [.int .i64 0, .int .i64 0, .int .i64 0, .int .i64 0, .int .i64 0, .int .i64 0, .int .i64 0, .int .i64 0, .int .i64 0, .int .i64 0, .slice none 0 0, .bool false, .int .i64 0, .slice none 0 0, .slice none 0 0] (pl w2.heap.size n (.slice A5 e5.length c5) e6 e7 (.slice none 0 0) (.slice none 0 0) mn) A2 c2 lo (chk 64 151 (mn, s8)) (fun W => True ∧ W.ownsRow (w2.heap.size + 5 + 1) 5 1 (.slice A5 e5.length c5) e5.length (e5.map byt)))
    case first =>
      replace hP := hP.out
      by_cases hz : s8.2 = 0 ∧ (mn < 0 ∨ 64 < mn)
      · have hd : decide (s8.2 = 0 ∧ (mn < 0 ∨ 64 < mn)) = true := decide_eq_true hz
        have F2 := (hP.rr.row.2 2 _ rfl).2
        have C2 := (hP.rr.row.2 2 _ rfl).1
        have hS := hP.err 151
        replace hS := hid hS
        clear hP
        go_wp2_with fail
        go_meet
        unfold chk
        rw [if_pos hz]
        exact hS.out
      · have hd : decide (s8.2 = 0 ∧ (mn < 0 ∨ 64 < mn)) = false := decide_eq_false hz
        replace hP := hid hP
        go_wp2_with fail
        go_meet
        unfold chk
        rw [if_neg hz]
        exact hP.out
    case rest =>
    clear hP
    have hP := hcut
    clear hcut
    have hck : (chk 64 151 (mn, s8)).2 = 0 → mn.toNat ≤ 64 := by
      unfold chk
      split
      · intro hh; exact absurd hh (show ¬ ((151 : Int) = 0) by decide)
      · rename_i hh; intro h0; dsimp only at hh h0; by_cases hx : 64 < mn; exact absurd ⟨h0, .inr hx⟩ hh; omega
    obtain ⟨sc, hsc⟩ : ∃ sc, sc = chk 64 151 (mn, s8) := ⟨_, rfl⟩
    rw [← hsc] at hP hck
    have HSC := hid hsc
    clear hsc
    obtain ⟨wl, hwl⟩ : ∃ wl, wl = wc := ⟨_, rfl⟩
    rw [← hwl] at hP
    have zl := hP.rr.row.1
    have hA5 : ∀ k, (Value.slice A5 e5.length c5).ownBlock = some k → k < wl.heap.size := fun k hk => (own_lt hP.x.2 hk).2
    replace hP := hid hP
    go_wp2_with fail
    go_loopg [] mn.toNat (fun gk W => ∃ (m : Int) (sk : Int × Int) (outs : List En) (v : Value), gk = m.toNat ∧ (outs.length ≤ 64 ∧ (sk.2 = 0 → outs.length + m.toNat ≤ 64)) ∧ getL getV mn.toNat lo sc = (outs.map En.data ++ (getL getV m.toNat lo sk).1, (getL getV m.toNat lo sk).2) ∧ OwnEls enEl W wl.heap.size 43 v outs ∧ NewE enEl wl.heap.size outs ∧ wl.heap.size ≤ W.heap.size ∧ Pg w W w.heap.size w2.heap.size (w2.heap.size + 5) [.int .i64 0, .int .i64 0, .int .i64 0, .int .i64 0, .int .i64 0, .int .i64 0, .int .i64 0, .int .i64 0, .int .i64 0, .int .i64 0, .slice none 0 0, .bool false, .int .i64 0, .slice none 0 0, .slice none 0 0] (pl w2.heap.size n (.slice A5 e5.length c5) e6 e7 v (.slice none 0 0) m) A2 c2 lo sk (fun W => True ∧ W.ownsRow (w2.heap.size + 5 + 1) 5 1 (.slice A5 e5.length c5) e5.length (e5.map byt)))
    case atStart => exact ⟨mn, sc, [], .slice none 0 0, rfl, ⟨by simp, by simpa using hck⟩, by simp, OwnEls.nil _ _ _ _, NewE.nil _ _, by rw [← hwl]; exact Nat.le_refl _, by rw [← hwl]; exact hP.out⟩
    case round =>
      clear hwl hP
      obtain ⟨m, sk, outs, v, hgk, ⟨hl1, hl2⟩, hgl, hE, hN, hzr, hP⟩ := hrel
      have CM := hP.cell 18 rfl
      have CR := (hP.rr.row.2 2 _ rfl).1
      replace hP := hid hP
      replace hgk := hid hgk
      replace hgl := hid hgl
      go_upto_region 13 with fail
      go_cut [70] (fun s70 wx => s70 = .bool (decide (0 < m ∧ sk.2 = 0)) ∧ wx = wr)
      case first =>
        by_cases hn : 0 < m
        · have jn : decide (0 < m) = true := decide_eq_true hn
          go_wp2_with fail
          go_meet
          exact ⟨congrArg Value.bool (by by_cases hz : sk.2 = 0 <;> simp [hn, hz]), rfl⟩
        · have jn : decide (0 < m) = false := decide_eq_false hn
          go_wp2_with fail
          go_meet
          exact ⟨congrArg Value.bool (decide_eq_false (fun hh => by omega)).symm, rfl⟩
      case rest =>
      obtain ⟨rfl, rfl⟩ := hcut
      clear CR CM
      replace hP := hP.out
      replace hgk := hgk.out
      replace hgl := hgl.out
      by_cases hgo : 0 < m ∧ sk.2 = 0
      · rw [decide_eq_true hgo]
        obtain ⟨hn, hz⟩ := hgo
        obtain ⟨k, rfl⟩ : ∃ k : Nat, m = (k : Int) + 1 := ⟨(m - 1).toNat, by omega⟩
        have hm64 := hl2 hz
        have hgs : getL getV ((k : Int) + 1).toNat lo sk = ((getV lo sk).1 :: (getL getV k lo (getV lo sk).2).1, (getL getV k lo (getV lo sk).2).2) := by
          rw [show ((k : Int) + 1).toNat = k + 1 by omega]; exact getL_ok getV k lo sk hz
        rw [hgs] at hgl
        clear hgs
        have HGL := hid hgl
        clear hgl
        have hgk2 : gk = k + 1 := by omega
        subst hgk2
        clear hgk hl2 hz hn
        have zc := hP.rr.row.1
        -- the entry
        have bA := below_alloc wc (.cells #[.int .i64 0, .int .i64 0, .slice none 0 0] 43)
        have MX := Mem.of_row (Row.new wc [.int .i64 0, .int .i64 0, .slice none 0 0] 43)
        have zA : wc.heap.size < (wc.alloc (.cells #[.int .i64 0, .int .i64 0, .slice none 0 0] 43)).heap.size := by rw [size_alloc1]; omega
        replace MX := hid MX
        replace hP := hid hP
        replace bA := hid bA
        replace hE := hid hE
        go_upto_region 16 with fail
        change Hid (Mem (wc.alloc (.cells #[.int .i64 0, .int .i64 0, .slice none 0 0] 43)) _) at MX
        generalize wc.alloc (.cells #[.int .i64 0, .int .i64 0, .slice none 0 0] 43) = wA at bA MX zA ⊢
        have bT := below_alloc wA (.cells #[.pointer (some ⟨wc.heap.size, 0, none⟩), .pointer (some ⟨wc.heap.size, 1, none⟩)] 56)
        have rT := rd_box wA #[.pointer (some ⟨wc.heap.size, 0, none⟩), .pointer (some ⟨wc.heap.size, 1, none⟩)] 56
        have K := hid (pgx_num ((hP.out.on bA.out).on bT) (cT := 2) (MX.out.below bT) zc rT zA)
        have bT1 := hid (below_step bA.out bT)
        clear bT rT bA
        go_wp2_with fail
        refine K.out.mono ?_
        rintro e x5 ⟨q5, rfl, rr5, mx5, G5⟩
        clear K MX zA
        obtain ⟨f1, t1, i1⟩ : ∃ e s, nx numR 0 lo sk = (e, s) := ⟨_, _, rfl⟩
        rw [i1] at rr5 mx5
        dsimp only at rr5 mx5
        obtain ⟨f2, t2, i2⟩ : ∃ e s, nx numR 0 lo t1 = (e, s) := ⟨_, _, rfl⟩
        rw [i2] at rr5 mx5
        dsimp only at rr5 mx5
        have P5 := hP.out.turn (Gs.newvar bT1.out G5 (Nat.le_refl _)) rr5
        have z5 : wc.heap.size < x5.heap.size := mx5.lt (i := 0) rfl
        have bT := below_alloc x5 (.cells #[.pointer (some ⟨wc.heap.size, 2, none⟩)] 59)
        have rT := rd_box x5 #[.pointer (some ⟨wc.heap.size, 2, none⟩)] 59
        have K := hid (pgx_text (P5.on bT) (cT := 1) (mx5.below bT) zc (Nat.lt_of_lt_of_le z5 bT.size) rT z5)
        replace G5 := hid (G5.trans (Gs.of_below bT))
        have zT : wc.heap.size ≤ (x5.alloc (.cells #[.pointer (some ⟨wc.heap.size, 2, none⟩)] 59)).heap.size := by rw [size_alloc1]; omega
        clear bT rT P5 rr5 mx5
        go_wp2_with fail
        refine K.out.mono ?_
        rintro e x6 ⟨q6, v6, rfl, own6, rr6, mx6, G6⟩
        clear K
        obtain ⟨f3, t3, i3⟩ : ∃ e s, nx bytesR [] lo t2 = (e, s) := ⟨_, _, rfl⟩
        rw [i3] at rr6 own6
        dsimp only at rr6 own6
        have GG := Gs.newvar bT1.out (G5.out.trans G6) (Nat.le_refl _)
        have P6 := hP.out.turn GG rr6
        have hE6 := GG.els hE.out hN (fun j hj e => by omega)
        obtain ⟨A6, c6, rfl, hc6, hm6, _⟩ := own_shape own6
        clear G5 G6 rr6 bT1 z5
        have C13 := P6.cell 13 rfl
        have X0 := (mx6.cell 0 _ _ rfl).1
        have X1 := (mx6.cell 1 _ _ rfl).1
        have X2 := (mx6.cell 2 _ _ rfl).1
        have z6 : wl.heap.size ≤ x6.heap.size := Nat.le_trans hzr GG.size
        have bB := below_alloc x6 (.cells #[.int .i64 f1, .int .i64 f2, .slice A6 f3.length c6] 43)
        have rB := rd_box x6 #[.int .i64 f1, .int .i64 f2, .slice A6 f3.length c6] 43
        have zB := Nat.le_trans z6 bB.size
        have hEB := hE6.below bB
        have PB := P6.on bB
        have hoff : Off enEl (x6.alloc (.cells #[.int .i64 f1, .int .i64 f2, .slice A6 f3.length c6] 43)) v [⟨f1, f2, A6, c6, f3⟩] := en_off (own_below own6 bB) hE.out.1 zT
        have hNn := hid (hN.app (ys := [⟨f1, f2, A6, c6, f3⟩]) (en_new own6 (Nat.le_trans hzr zT)))
        have HGV : Hid (getV lo sk = ((f1, f2, f3), t3)) := by refine hid ?_; unfold getV; simp only [sq, i1, i2, i3]
        clear mx6 hE6 own6 GG P6 bB z6
        replace rB := hid rB
        replace hoff := hid hoff
        replace PB := hid PB
        replace hEB := hid hEB
        replace i1 := hid i1
        replace i2 := hid i2
        replace i3 := hid i3
        replace hE := hid hE
        go_wp2_with (at_builtin; refine wpList_app rfl (.tmp 84) (.tmp 86) 24 rfl wl.heap.size 43 Tryd.underlying24 infoE rfl (by decide) v outs.length (outs.flatMap enEl.cells) rfl hEB.out.1 (some ⟨x6.heap.size, 0, none⟩) 1 1 [.int .i64 f1, .int .i64 f2, .slice A6 f3.length c6] rfl rfl rB.out (by intro u hu; simp at hu; rcases hu with rfl | rfl | rfl <;> rfl) (by omega) (by omega) zB ?_; intro v7 w7 own7 hg7 hat7; have P7 := PB.out.grown hg7 (fun j hj => by have := (own_lt hEB.out.1 hj).1; omega) ⟨trivial, PB.out.x.2.kept hg7 (by cases hb : (Value.slice A5 e5.length c5).ownBlock with | none => exact .inl rfl | some j => exact .inr (fun e => by have h1 := hA5 j hb; have h2 := (own_lt hEB.out.1 e.symm).1; omega))⟩; have hE7 := OwnEls.app (ys := [⟨f1, f2, A6, c6, f3⟩]) hEB.out.2 hoff.out own7 hg7 hat7; obtain ⟨A7, c7, hv7, _, _, _⟩ := own_shape own7; subst hv7; have D13 : w7.cell? ⟨w2.heap.size, 13, none⟩ = some v := P7.cell 13 rfl; have F13 : w7.frozen? ⟨w2.heap.size, 13, none⟩ = false := P7.froz 13 rfl; have P8 := (P7.set 13 rfl (.slice A7 (outs.length + 1) c7)).swap (pl_set13 ..); have D18 : w7.cell? ⟨w2.heap.size + 4, 0, none⟩ = some (.int .i64 ((k : Int) + 1)) := P7.cell 18 rfl; have F18 : w7.frozen? ⟨w2.heap.size + 4, 0, none⟩ = false := P7.froz 18 rfl; have P9 : Pg w ((w7.setCell ⟨w2.heap.size, 13, none⟩ (.slice A7 (outs.length + 1) c7)).setCell ⟨w2.heap.size + 4, 0, none⟩ (.int .i64 k)) w.heap.size w2.heap.size (w2.heap.size + 5) _ _ A2 c2 lo t3 _ := (P8.set 18 rfl (.int .i64 k)).swap (pl_set18 ..); have hE9 := (Gs.set (B := Bt w2.heap.size (w2.heap.size + 5)) (p := ⟨w2.heap.size + 4, 0, none⟩) ⟨by show w2.heap.size ≤ w2.heap.size + 4; omega, by show w2.heap.size + 4 ≤ w2.heap.size + 5; omega⟩ (.int .i64 k)).els ((Gs.set (B := Bt w2.heap.size (w2.heap.size + 5)) (p := ⟨w2.heap.size, 13, none⟩) ⟨Nat.le_refl _, by show w2.heap.size ≤ w2.heap.size + 5; omega⟩ (.slice A7 (outs.length + 1) c7)).els hE7 hNn.out (fun j hj e => by have := e.2; omega)) hNn.out (fun j hj e => by have := e.2; omega); have z9 : wl.heap.size ≤ ((w7.setCell ⟨w2.heap.size, 13, none⟩ (.slice A7 (outs.length + 1) c7)).setCell ⟨w2.heap.size + 4, 0, none⟩ (.int .i64 k)).heap.size := (by rw [World.size_setCell, World.size_setCell]; exact Nat.le_trans zB hg7.size); replace z9 := hid z9; clear P7 P8 hE7 hat7 own7 hg7; replace P9 := hid P9; replace hE9 := hid hE9)
        clear D13 F13 D18 F18
        generalize World.setCell _ _ _ = w9 at P9 hE9 z9 ⊢
        go_roundg k
        case rel => exact ⟨k, t3, outs ++ [⟨f1, f2, A6, c6, f3⟩], _, by simp, ⟨by rw [List.length_append]; simp; omega, fun _ => by rw [List.length_append]; simp; omega⟩, by rw [HGL.out, List.map_append, List.append_assoc, Int.toNat_natCast, HGV.out]; rfl, hE9.out, hNn.out, z9.out, P9.out⟩
        case measure => omega
      · rw [decide_eq_false hgo]
        have HEX : Hid (getL getV mn.toNat lo sc = (outs.map En.data, sk)) := by
          refine hid ?_
          rw [hgl]
          by_cases hz : sk.2 = 0
          · rw [show m.toNat = 0 by omega]; simp [getL]
          · rw [getL_err getV _ lo sk hz]; simp
        clear hgl hgo hgk hl2
        -- the checkpoint
        replace hP := hP.more (Y := fun W => OwnEls enEl W wl.heap.size 43 v outs) hE (fun W1 W2 hG hs hy => hG.els hy hN (fun j hj e => by have := e.2; omega))
        clear hE
        obtain ⟨Av, cv, rfl, hcv, hmv, _⟩ := hP.x.2.rd
        have zP := hP.rr.row.1
        have bT := below_alloc wc (.cells #[.pointer (some ⟨w2.heap.size, 14, none⟩)] 59)
        have rT := rd_box wc #[.pointer (some ⟨w2.heap.size, 14, none⟩)] 59
        have K := hid (pg_text (hP.on bT) (cT := 1) (j := 14) rT zP rfl)
        replace hP := hid hP
        go_wp2_with fail
        refine K.out.mono ?_
        rintro e x1 ⟨r9, v9, rfl, own9, hQ⟩
        clear K hP bT rT
        obtain ⟨e9, s9, g9⟩ : ∃ e s, nx bytesR [] lo sk = (e, s) := ⟨_, _, rfl⟩
        rw [g9] at hQ own9
        dsimp only at hQ own9
        obtain ⟨A9, c9, rfl, hc9, hm9, _⟩ := own_shape own9
        rw [pl_set14] at hQ
        replace hQ := hQ.more (own_mono own9 (show w2.heap.size + 5 + 1 ≤ _ by rw [size_alloc1]; omega)) (fun W1 W2 hG hs hy => keep_own' hG hy)
        clear own9 zP
        have CK : x1.cell? ⟨w2.heap.size + 1, 0, none⟩ = some (.int .i64 n.1) := hQ.cell 15 rfl
        have CF : x1.cell? ⟨w2.heap.size + 2, 0, none⟩ = some (.int .i64 n.2.1) := hQ.cell 16 rfl
        have CT : x1.cell? ⟨w2.heap.size + 3, 0, none⟩ = some (.int .i64 n.2.2.1) := hQ.cell 17 rfl
        have C0 : x1.cell? ⟨w2.heap.size, 0, none⟩ = some (.int .i64 0) := hQ.cell 0 rfl
        have F0 : x1.frozen? ⟨w2.heap.size, 0, none⟩ = false := hQ.froz 0 rfl
        have C1 : x1.cell? ⟨w2.heap.size, 1, none⟩ = some (.int .i64 0) := hQ.cell 1 rfl
        have F1 : x1.frozen? ⟨w2.heap.size, 1, none⟩ = false := hQ.froz 1 rfl
        have C2 : x1.cell? ⟨w2.heap.size, 2, none⟩ = some (.int .i64 0) := hQ.cell 2 rfl
        have F2 : x1.frozen? ⟨w2.heap.size, 2, none⟩ = false := hQ.froz 2 rfl
        have hS : Pg w (((x1.setCell ⟨w2.heap.size, 0, none⟩ (.int .i64 n.1)).setCell ⟨w2.heap.size, 1, none⟩ (.int .i64 n.2.1)).setCell ⟨w2.heap.size, 2, none⟩ (.int .i64 n.2.2.1)) w.heap.size w2.heap.size (w2.heap.size + 5) [.int .i64 0, .int .i64 0, .int .i64 0, .int .i64 0, .int .i64 0, .int .i64 0, .int .i64 0, .int .i64 0, .int .i64 0, .int .i64 0, .slice none 0 0, .bool false, .int .i64 0, .slice none 0 0, .slice none 0 0] (plF w2.heap.size n (.slice A5 e5.length c5) e6 e7 (.slice Av outs.length cv) (.slice A9 e9.length c9) m) A2 c2 lo s9 (fun W => ((True ∧ W.ownsRow (w2.heap.size + 5 + 1) 5 1 (.slice A5 e5.length c5) e5.length (e5.map byt)) ∧ OwnEls enEl W wl.heap.size 43 (.slice Av outs.length cv) outs) ∧ W.ownsRow (w2.heap.size + 5 + 1) 5 1 (.slice A9 e9.length c9) e9.length (e9.map byt)) := (((hQ.set 0 (q := ⟨w2.heap.size, 0, none⟩) rfl (.int .i64 n.1)).set 1 (q := ⟨w2.heap.size, 1, none⟩) rfl (.int .i64 n.2.1)).set 2 (q := ⟨w2.heap.size, 2, none⟩) rfl (.int .i64 n.2.2.1)).swap (pl_fin ..)
        clear hQ
        replace hS := hid hS
        go_upto_region 21 with fail
        clear CK CF CT C0 F0 C1 F1 C2 F2
        generalize World.setCell _ _ _ = x2 at hS ⊢
        replace hS := hS.out
        obtain ⟨o, ho⟩ : ∃ o : Ma, o = ⟨n, A5, c5, e5, e6, e7, Av, cv, outs, A9, c9, e9⟩ := ⟨_, rfl⟩
        have hMA : ∀ W, (fun W => ((True ∧ W.ownsRow (w2.heap.size + 5 + 1) 5 1 (.slice A5 e5.length c5) e5.length (e5.map byt)) ∧ OwnEls enEl W wl.heap.size 43 (.slice Av outs.length cv) outs) ∧ W.ownsRow (w2.heap.size + 5 + 1) 5 1 (.slice A9 e9.length c9) e9.length (e9.map byt)) W → MaRd W o := fun W hx => by
          rw [ho]
          exact ⟨own_rd hx.1.1.2, ⟨own_rd hx.1.2.1, fun a ha p hp => (hx.1.2.2 a ha p hp).1⟩, own_rd hx.2, ⟨hc5, hm5⟩, ⟨hcv, hmv⟩, ⟨hc9, hm9⟩⟩
        have hOd : o.data = (n, e5, e6, e7, outs.map En.data, e9) := by rw [ho]; rfl
        have hOv : o.val = .agg #[.int .i64 n.1, .int .i64 n.2.1, .int .i64 n.2.2.1, .int .i64 n.2.2.2.1, .int .i64 n.2.2.2.2.1, .int .i64 n.2.2.2.2.2.1, .int .i64 n.2.2.2.2.2.2.1, .int .i64 n.2.2.2.2.2.2.2.1, .int .i64 n.2.2.2.2.2.2.2.2.1, .int .i64 n.2.2.2.2.2.2.2.2.2, .slice A5 e5.length c5, .bool e6, .int .i64 e7, .slice Av outs.length cv, .slice A9 e9.length c9] := by rw [ho]; rfl
        replace ho := hid ho
        have hRT := pright_any (hMA x2 hS.x)
        rw [hOv] at hRT
        replace hOv := hid hOv
        replace hOd := hid hOd
        obtain ⟨rr, hrr⟩ : ∃ rr, rr = rightM o.data := ⟨_, rfl⟩
        rw [← hrr] at hRT
        replace hrr := hid hrr
        replace hRT := hid hRT
        have RM := plF_row hS.mem
        have hRR := hS.rr
        replace hS := hid hS
        go_cut [118] (fun s118 wx => s118 = .bool (decide (s9.2 = 0 ∧ ¬ (s9.1 = lo.length ∧ rr = true))) ∧ Below x2.heap.size x2 wx)
        case first =>
          obtain ⟨p9, r9'⟩ := s9
          have E2 := (hRR.row.2 2 _ rfl).1
          have E1 := (hRR.row.2 1 _ rfl).1
          by_cases z9 : r9' = 0
          · subst z9
            by_cases zp : p9 = lo.length
            · subst zp
              have D0 := (RM.2 0 _ rfl).1
              have D1 := (RM.2 1 _ rfl).1
              have D2 := (RM.2 2 _ rfl).1
              have D3 := (RM.2 3 _ rfl).1
              have D4 := (RM.2 4 _ rfl).1
              have D5 := (RM.2 5 _ rfl).1
              have D6 := (RM.2 6 _ rfl).1
              have D7 := (RM.2 7 _ rfl).1
              have D8 := (RM.2 8 _ rfl).1
              have D9 := (RM.2 9 _ rfl).1
              have D10 := (RM.2 10 _ rfl).1
              have D11 := (RM.2 11 _ rfl).1
              have D12 := (RM.2 12 _ rfl).1
              have D13 := (RM.2 13 _ rfl).1
              have D14 := (RM.2 14 _ rfl).1
              go_wp2_with fail
              refine hRT.out.mono ?_
              rintro e wz ⟨rfl, hb⟩
              go_wp2_with fail
              go_meet
              exact ⟨congrArg Value.bool (by cases rr <;> simp), hb⟩
            · have jp : (p9 != (lo.length : Int)) = true := by simp [zp]
              go_wp2_with fail
              go_meet
              exact ⟨congrArg Value.bool (decide_eq_true ⟨trivial, fun hh => zp hh.1⟩).symm, Below.refl _ _⟩
          · have y9 : (r9' == 0) = false := by simp [z9]
            go_wp2_with fail
            go_meet
            exact ⟨congrArg Value.bool (decide_eq_false (fun hh => z9 hh.1)).symm, Below.refl _ _⟩
        case rest =>
        clear hRT RM hRR
        obtain ⟨rfl, hb⟩ := hcut
        replace hS := hid (hS.out.on hb)
        clear hb
        go_upto_if 118 with fail
        go_cut [] (fun wx => Pg w wx w.heap.size w2.heap.size (w2.heap.size + 5) [.int .i64 0, .int .i64 0, .int .i64 0, .int .i64 0, .int .i64 0, .int .i64 0, .int .i64 0, .int .i64 0, .int .i64 0, .int .i64 0, .slice none 0 0, .bool false, .int .i64 0, .slice none 0 0, .slice none 0 0] (plF w2.heap.size n (.slice A5 e5.length c5) e6 e7 (.slice Av outs.length cv) (.slice A9 e9.length c9) m) A2 c2 lo (s9.1, endR lo.length s9 rr) (fun W => ((True ∧ W.ownsRow (w2.heap.size + 5 + 1) 5 1 (.slice A5 e5.length c5) e5.length (e5.map byt)) ∧ OwnEls enEl W wl.heap.size 43 (.slice Av outs.length cv) outs) ∧ W.ownsRow (w2.heap.size + 5 + 1) 5 1 (.slice A9 e9.length c9) e9.length (e9.map byt)))
        case first =>
          replace hS := hS.out
          by_cases hz : s9.2 = 0 ∧ ¬ (s9.1 = lo.length ∧ rr = true)
          · have hd : decide (s9.2 = 0 ∧ ¬ (s9.1 = lo.length ∧ rr = true)) = true := decide_eq_true hz
            have F2 := (hS.rr.row.2 2 _ rfl).2
            have C2 := (hS.rr.row.2 2 _ rfl).1
            have hS2 := hid (hS.err 151)
            clear hS
            go_wp2_with fail
            go_meet
            unfold endR
            rw [if_pos hz.1, if_neg hz.2]
            exact hS2.out
          · have hd : decide (s9.2 = 0 ∧ ¬ (s9.1 = lo.length ∧ rr = true)) = false := decide_eq_false hz
            replace hS := hid hS
            go_wp2_with fail
            go_meet
            have he : endR lo.length s9 rr = s9.2 := by
              unfold endR
              by_cases h0 : s9.2 = 0
              · rw [if_pos h0, if_pos (by by_cases hh : s9.1 = lo.length ∧ rr = true; exact hh; exact absurd ⟨h0, hh⟩ hz), h0]
              · rw [if_neg h0]
            rw [he]
            exact hS.out
        case rest =>
        clear hS
        have hS := hcut
        clear hcut
        have eG : getM lo (0, 0) = (o.data, s9) := by
          rw [hOd.out]
          unfold getM
          have q := HEX.out
          have hc := HSC.out
          simp only [sq, g1, g5, g6, g7, cnt, g8, ← hc, q, g9]
        have hW := whole_end rightM zeroM getM lo eG
        have hrd : readM lo = whole rightM 151 zeroM getM lo := rfl
        rw [hW, ← hrr.out] at hrd
        clear hW eG g1 g5 g6 g7 g8 g9 HEX HSC
        generalize endR lo.length s9 rr = er at hrd hS ⊢
        replace hrd := hid hrd
        have CE := (hS.rr.row.2 2 _ rfl).1
        have hx := hMA _ hS.x
        by_cases hz : er = 0
        · have jz : (er != 0) = false := by simp [hz]
          have RM := plF_row hS.mem
          have R1 := hS.r1
          have bS := hS.below
          have hX := hS.x
          clear hS
          have ord : w.heap.size < w2.heap.size := nP
          have hF := hid (R1.setCells (us := [.int .i64 n.1, .int .i64 n.2.1, .int .i64 n.2.2.1, .int .i64 n.2.2.2.1, .int .i64 n.2.2.2.2.1, .int .i64 n.2.2.2.2.2.1, .int .i64 n.2.2.2.2.2.2.1, .int .i64 n.2.2.2.2.2.2.2.1, .int .i64 n.2.2.2.2.2.2.2.2.1, .int .i64 n.2.2.2.2.2.2.2.2.2, .slice A5 e5.length c5, .bool e6, .int .i64 e7, .slice Av outs.length cv, .slice A9 e9.length c9]) rfl)
          have bF := hid (below_setCells bS (Nat.le_refl _) [.int .i64 n.1, .int .i64 n.2.1, .int .i64 n.2.2.1, .int .i64 n.2.2.2.1, .int .i64 n.2.2.2.2.1, .int .i64 n.2.2.2.2.2.1, .int .i64 n.2.2.2.2.2.2.1, .int .i64 n.2.2.2.2.2.2.2.1, .int .i64 n.2.2.2.2.2.2.2.2.1, .int .i64 n.2.2.2.2.2.2.2.2.2, .slice A5 e5.length c5, .bool e6, .int .i64 e7, .slice Av outs.length cv, .slice A9 e9.length c9])
          have gF := Gs.setCells (B := fun k => k = w.heap.size) (b := w.heap.size) rfl wc [.int .i64 n.1, .int .i64 n.2.1, .int .i64 n.2.2.1, .int .i64 n.2.2.2.1, .int .i64 n.2.2.2.2.1, .int .i64 n.2.2.2.2.2.1, .int .i64 n.2.2.2.2.2.2.1, .int .i64 n.2.2.2.2.2.2.2.1, .int .i64 n.2.2.2.2.2.2.2.2.1, .int .i64 n.2.2.2.2.2.2.2.2.2, .slice A5 e5.length c5, .bool e6, .int .i64 e7, .slice Av outs.length cv, .slice A9 e9.length c9]
          have hX7 := hid (hMA _ ⟨⟨⟨trivial, gF.own hX.1.1.2 (fun k hk e => by omega)⟩, gF.els hX.1.2 hN (fun k hk e => by omega)⟩, gF.own hX.2 (fun k hk e => by omega)⟩)
          clear gF hX hx
          go_wp2_with (first | (refine wpList_load_rowc rfl 28 (.tmp 6) rfl w2.heap.size [.int .i64 n.1, .int .i64 n.2.1, .int .i64 n.2.2.1, .int .i64 n.2.2.2.1, .int .i64 n.2.2.2.2.1, .int .i64 n.2.2.2.2.2.1, .int .i64 n.2.2.2.2.2.2.1, .int .i64 n.2.2.2.2.2.2.2.1, .int .i64 n.2.2.2.2.2.2.2.2.1, .int .i64 n.2.2.2.2.2.2.2.2.2, .slice A5 e5.length c5, .bool e6, .int .i64 e7, .slice Av outs.length cv, .slice A9 e9.length c9] rfl RM Tryd.underlying28 rfl (by kernel_rfl) ?_) | (refine wpList_store_rowc rfl 28 (.tmp 2) (.tmp 132) rfl w.heap.size [.int .i64 n.1, .int .i64 n.2.1, .int .i64 n.2.2.1, .int .i64 n.2.2.2.1, .int .i64 n.2.2.2.2.1, .int .i64 n.2.2.2.2.2.1, .int .i64 n.2.2.2.2.2.2.1, .int .i64 n.2.2.2.2.2.2.2.1, .int .i64 n.2.2.2.2.2.2.2.2.1, .int .i64 n.2.2.2.2.2.2.2.2.2, .slice A5 e5.length c5, .bool e6, .int .i64 e7, .slice Av outs.length cv, .slice A9 e9.length c9] [.int .i64 0, .int .i64 0, .int .i64 0, .int .i64 0, .int .i64 0, .int .i64 0, .int .i64 0, .int .i64 0, .int .i64 0, .int .i64 0, .slice none 0 0, .bool false, .int .i64 0, .slice none 0 0, .slice none 0 0] rfl rfl R1 rfl (by kernel_rfl) rfl ?_))
          clear CE
          replace hF := hF.out
          replace bF := bF.out
          replace hX7 := hX7.out
          generalize World.setCells _ _ _ _ = w7 at hF bF hX7 ⊢
          refine bodyPost_ret (results_cell2 (k := 2) (k2 := 3) (t := 28) Tryd.results13 rfl rfl hF Tryd.underlying28 rfl (by kernel_rfl)) rfl ?_
          have hrd2 := hrd.out
          rw [if_pos hz, hz] at hrd2
          rw [hrs.out, hrd2]
          exact ⟨o, by rw [hOv.out]; rfl, rfl, hX7, bF⟩
        · have jz : (er != 0) = true := by simp [hz]
          have R1 := hS.r1
          have bS := hS.below
          have hne : w2.heap.size + 5 ≠ w.heap.size := by omega
          clear hx
          replace hS := hid hS
          go_upto_region 24 with fail
          have bd := (Below.refl wc.heap.size wc).drew
          have R1d := R1.below bd
          refine wp_region_noPanic ?_
          refine wp_region_held_drew (S := (fun W => W.cell? ⟨w2.heap.size + 5, 2, none⟩ = some (.int .i64 er))) (by kernel_rfl) ?_ (fun hHeld => ?_)
          · exact CE
          refine wpAnyH_take (i := 0) (oi := ?oi1) (v := ?v1) ?hi1 (by kernel_rfl) (by kernel_rfl) (by kernel_rfl) ?hQ1 ?hy1 (by assumption) ?hrest1
          case hi1 => (simp only [List.getElem?_toArray, List.getElem?_cons_zero]; try rfl)
          case hQ1 => exact fun _ _ _ h => h
          case hy1 =>
            refine Or.inl ⟨by rfl, ?_⟩
            (intro wq hSw; (try dsimp only at hSw); go_simp; try with_reducible rfl)
          (try simp only [Act.put, List.setIfInBounds_toArray, List.set_cons_zero, List.set_cons_succ])
          refine wpAnyH_take (i := 1) (oi := ?oi2) (v := ?v2) ?hi2 (by kernel_rfl) (by kernel_rfl) (by kernel_rfl) ?hQ2 ?hy2 (by assumption) ?hrest2
          case hi2 => (simp only [List.getElem?_toArray, List.getElem?_cons_succ, List.getElem?_cons_zero]; try rfl)
          case hQ2 => exact fun _ _ _ h => h
          case hy2 =>
            refine Or.inl ⟨by rfl, ?_⟩
            (intro wq hSw; (try dsimp only at hSw); go_simp; try with_reducible rfl)
          (try simp only [Act.put, List.setIfInBounds_toArray, List.set_cons_zero, List.set_cons_succ])
          refine wpAnyH_take (i := 2) (oi := ?oi3) (v := ?v3) ?hi3 (by kernel_rfl) (by kernel_rfl) (by kernel_rfl) ?hQ3 ?hy3 (by assumption) ?hrest3
          case hi3 => (simp only [List.getElem?_toArray, List.getElem?_cons_succ, List.getElem?_cons_zero]; try rfl)
          case hQ3 => exact fun _ _ _ h => h
          case hy3 =>
            refine Or.inl ⟨by rfl, ?_⟩
            (intro wq hSw; (try dsimp only at hSw); go_simp; try with_reducible rfl)
          (try simp only [Act.put, List.setIfInBounds_toArray, List.set_cons_zero, List.set_cons_succ])
          refine wpAnyH_take (i := 3) (oi := ?oi4) (v := ?v4) ?hi4 (by kernel_rfl) (by kernel_rfl) (by kernel_rfl) ?hQ4 ?hy4 (by assumption) ?hrest4
          case hi4 => (simp only [List.getElem?_toArray, List.getElem?_cons_succ, List.getElem?_cons_zero]; try rfl)
          case hQ4 => exact fun _ _ _ h => h
          case hy4 =>
            refine Or.inl ⟨by rfl, ?_⟩
            (intro wq hSw; (try dsimp only at hSw); go_simp; try with_reducible rfl)
          (try simp only [Act.put, List.setIfInBounds_toArray, List.set_cons_zero, List.set_cons_succ])
          refine wpAnyH_take (i := 4) (oi := ?oi5) (v := ?v5) ?hi5 (by kernel_rfl) (by kernel_rfl) (by kernel_rfl) ?hQ5 ?hy5 (by assumption) ?hrest5
          case hi5 => (simp only [List.getElem?_toArray, List.getElem?_cons_succ, List.getElem?_cons_zero]; try rfl)
          case hQ5 => exact fun _ _ _ h => h
          case hy5 =>
            refine Or.inl ⟨by rfl, ?_⟩
            (intro wq hSw; (try dsimp only at hSw); go_simp; try with_reducible rfl)
          (try simp only [Act.put, List.setIfInBounds_toArray, List.set_cons_zero, List.set_cons_succ])
          refine wpAnyH_ready (rs := [5]) (by kernel_rfl) (by simp) ?_
          refine AllReadyH.cons (o := ?oi6) ?hi6 (fun K hK => ?hstep6) AllReadyH.nil
          case hi6 => (simp only [List.getElem?_toArray, List.getElem?_cons_succ, List.getElem?_cons_zero]; try rfl)
          (refine oper_store_mid rfl 28 (.tmp 2) (.tmp 127) rfl w.heap.size [.int .i64 0, .int .i64 0, .int .i64 0, .int .i64 0, .int .i64 0, .int .i64 0, .int .i64 0, .int .i64 0, .int .i64 0, .int .i64 0, .slice none 0 0, .bool false, .int .i64 0, .slice none 0 0, .slice none 0 0] [.int .i64 0, .int .i64 0, .int .i64 0, .int .i64 0, .int .i64 0, .int .i64 0, .int .i64 0, .int .i64 0, .int .i64 0, .int .i64 0, .slice none 0 0, .bool false, .int .i64 0, .slice none 0 0, .slice none 0 0] rfl rfl R1d rfl (by kernel_rfl) (by decide) ?_; have R7 := R1d.setCells (us := [.int .i64 0, .int .i64 0, .int .i64 0, .int .i64 0, .int .i64 0, .int .i64 0, .int .i64 0, .int .i64 0, .int .i64 0, .int .i64 0, .slice none 0 0, .bool false, .int .i64 0, .slice none 0 0, .slice none 0 0]) rfl; have b7 := below_setCells (below_step bS bd) (Nat.le_refl _) [.int .i64 0, .int .i64 0, .int .i64 0, .int .i64 0, .int .i64 0, .int .i64 0, .int .i64 0, .int .i64 0, .int .i64 0, .int .i64 0, .slice none 0 0, .bool false, .int .i64 0, .slice none 0 0, .slice none 0 0])
          refine hK.out _ _ ?_ (fun hHeld => ?_)
          · exact (World.cell?_of_block (heap_setCells hne _ 0 _)).trans CE
          clear hK K
          (try dsimp only)
          refine wpAnyH_take (i := 6) (oi := ?oi7) (v := ?v7) ?hi7 (by kernel_rfl) (by kernel_rfl) (by kernel_rfl) ?hQ7 ?hy7 (by assumption) ?hrest7
          case hi7 => (simp only [List.getElem?_toArray, List.getElem?_cons_succ, List.getElem?_cons_zero]; try rfl)
          case hQ7 => exact fun _ _ _ h => h
          case hy7 =>
            refine Or.inl ⟨by rfl, ?_⟩
            (intro wq hSw; (try dsimp only at hSw); go_simp; try with_reducible rfl)
          (try simp only [Act.put, List.setIfInBounds_toArray, List.set_cons_zero, List.set_cons_succ])
          refine wpAnyH_done (by kernel_rfl) ?_ _
          refine NoPanic.normal ?_
          (skip)
          clear hHeld
          generalize World.setCells _ _ _ _ = w7 at R7 b7 ⊢
          go_wp2_with fail
          refine bodyPost_ret (results_cell2 (k := 2) (k2 := 3) (t := 28) Tryd.results13 rfl rfl R7 Tryd.underlying28 rfl (by kernel_rfl)) rfl ?_
          have hrd2 := hrd.out
          rw [if_neg hz] at hrd2
          rw [hrs.out, hrd2]
          exact ⟨zeroMa, rfl, rfl, zeroMa_rd _, b7⟩
  · have hrs := hid (show readS l = (zeroM, openE l) by unfold readS; rw [if_neg hz])
    have je : (openE l != 0) = true := by simp [hz]
    clear hz own2 hc2 hm2 hn2
    generalize openE l = er at je hrs ⊢
    have HT := R2.there
    have R7 := hid (R2.setCells (us := [.int .i64 0, .int .i64 0, .int .i64 0, .int .i64 0, .int .i64 0, .int .i64 0, .int .i64 0, .int .i64 0, .int .i64 0, .int .i64 0, .slice none 0 0, .bool false, .int .i64 0, .slice none 0 0, .slice none 0 0]) rfl)
    have b7 := hid (below_setCells b2 (Nat.le_refl _) [.int .i64 0, .int .i64 0, .int .i64 0, .int .i64 0, .int .i64 0, .int .i64 0, .int .i64 0, .int .i64 0, .int .i64 0, .int .i64 0, .slice none 0 0, .bool false, .int .i64 0, .slice none 0 0, .slice none 0 0])
    go_wp2_with (refine wpList_store_rowc rfl 28 (.tmp 2) (.tmp 20) rfl w.heap.size [.int .i64 0, .int .i64 0, .int .i64 0, .int .i64 0, .int .i64 0, .int .i64 0, .int .i64 0, .int .i64 0, .int .i64 0, .int .i64 0, .slice none 0 0, .bool false, .int .i64 0, .slice none 0 0, .slice none 0 0] [.int .i64 0, .int .i64 0, .int .i64 0, .int .i64 0, .int .i64 0, .int .i64 0, .int .i64 0, .int .i64 0, .int .i64 0, .int .i64 0, .slice none 0 0, .bool false, .int .i64 0, .slice none 0 0, .slice none 0 0] rfl rfl R2 rfl (by kernel_rfl) rfl ?_)
    refine bodyPost_ret (results_cell2 (k := 2) (k2 := 3) (t := 28) Tryd.results13 rfl rfl R7.out Tryd.underlying28 rfl (by kernel_rfl)) rfl ?_
    rw [hrs.out]
    exact ⟨zeroMa, rfl, rfl, zeroMa_rd _, b7.out⟩
end Go.Proofs.YtgkdnhbhmebmeaaDoor
