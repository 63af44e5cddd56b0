import Derived.Test.YtnkocbdbfkhgmaaDoorCodeT
import Derived.Test.YtnkocbdbfkhgmaaDoorCodeK
import Derived.Test.YtnkocbdbfkhgmaaDoorPlain1
/-! the ref's code: the module of bytes -/
namespace Go.Proofs.YtnkocbdbfkhgmaaDoor
open Go.RowKit Go.Cov
theorem Rh.grown {w0 W W1 : World} {res ob rb c : Nat} {zs vs : List Value} {A : Option Addr} {l : List UInt8} {s : Int × Int} {X Y : World → Prop} (h : Rh w0 W res ob rb zs vs A c l s X) {row : Option Nat} (hg : W.grownBy W1 row) (hr : ∀ k, row = some k → ob < k) (hy : Y W1) (hk : ∀ k W1 W2, k ≤ ob → Gro k k W1 W2 → ob < W1.heap.size → Y W1 → Y W2) : Rh w0 W1 res ob rb zs vs A c l s Y := by
  have ho := h.ord
  have hs := h.below.size
  exact ⟨h.r1.grown hg (fun e => by have := hr _ e; omega), h.r2.grown hg (fun e => by have := hr _ e; omega), h.rr.grown hg (fun e => by have := hr _ e; omega) (fun hl ad ha e => by have h1 := hr _ e; have h2 := h.old hl ad ha; omega), hy, hk, ho, h.old, h.below.trans ⟨hg.os, hg.tape, hg.output, hg.size, fun k hk1 => hg.block k (by omega) (fun e => by have := hr k e.symm; omega)⟩⟩
set_option maxRecDepth 100000 in
set_option maxHeartbeats 25600000 in
theorem rget_any {A : Option Addr} {c : Nat} {l : List UInt8} {w : World} (h : Rd w A (l.map byt)) (hc : l.length ≤ c) (hl : l.length ≤ 140737488351236) :
    Calls Tryd.prog 15 #[.slice A l.length c] w fun e w' => ∃ m : Mo, e = .returned (.tuple #[.agg #[.slice m.cA m.cs.length m.cc, .slice m.tA m.ts.length m.tc], .int .i64 (readMo l).2]) ∧ m.data = (readMo l).1 ∧ MoRd w' m ∧ Below w.heap.size w w' := by
  have hAl := rd_lt h
  have b1 := below_alloc w (.cells #[.slice none 0 0, .slice none 0 0] 25)
  have R1 := Row.new w [.slice none 0 0, .slice none 0 0] 25
  obtain ⟨w1, hw1⟩ : ∃ w1, w.alloc (.cells #[.slice none 0 0, .slice none 0 0] 25) = w1 := ⟨_, rfl⟩
  have n1 : w1.heap.size = w.heap.size + 1 := by rw [← hw1]; simp
  change Row (w.alloc (.cells #[.slice none 0 0, .slice none 0 0] 25)) _ _ at R1
  rw [hw1] at b1 R1
  have b2 := below_alloc w1 (.cells #[.slice A l.length c, .int .i64 0, .int .i64 0] 64)
  have R2 := Row.new w1 [.slice A l.length c, .int .i64 0, .int .i64 0] 64
  obtain ⟨w2, hw2⟩ : ∃ w2, w1.alloc (.cells #[.slice A l.length c, .int .i64 0, .int .i64 0] 64) = w2 := ⟨_, rfl⟩
  have n2 : w2.heap.size = w.heap.size + 2 := by rw [← hw2]; simp [n1]
  change Row (w1.alloc (.cells #[.slice A l.length c, .int .i64 0, .int .i64 0] 64)) _ _ at R2
  rw [hw2, n1] at R2
  rw [hw2] at b2
  have b3 := below_alloc w2 (.cells #[.slice none 0 0, .slice none 0 0] 25)
  have R3 := Row.new w2 [.slice none 0 0, .slice none 0 0] 25
  obtain ⟨w3, hw3⟩ : ∃ w3, w2.alloc (.cells #[.slice none 0 0, .slice none 0 0] 25) = w3 := ⟨_, rfl⟩
  have n3 : w3.heap.size = w.heap.size + 3 := by rw [← hw3]; simp [n2]
  change Row (w2.alloc (.cells #[.slice none 0 0, .slice none 0 0] 25)) _ _ at R3
  rw [hw3, n2] at R3
  rw [hw3] at b3
  have b13 := below_step (below_step b1 b2) b3
  have hR : Rh w w3 w.heap.size (w.heap.size + 2) (w.heap.size + 1) [.slice none 0 0, .slice none 0 0] [.slice none 0 0, .slice none 0 0] A c l (0, 0) (fun W => OwnEls coEl W (w.heap.size + 3) 46 (.slice none 0 0) [] ∧ ∀ x ∈ [], CoOwn W (w.heap.size + 3) x ∧ CoApart (.slice none 0 0) x) :=
    ⟨(R1.below b2).below b3, R3, ⟨R2.below b3, h.below b13, fun hn ad ha => by have := hAl hn ad ha; omega, hc, hl⟩, ⟨OwnEls.nil _ _ _ _, fun x hx => by cases hx⟩, (fun k W1 W2 hk hG _ hx => ⟨keep_elsc (m := w.heap.size + 3) (fun _ => rfl) (Nat.le_refl _) (by omega) hG hx.1, fun x hxx => ⟨(hx.2 x hxx).1.gro hG (by omega), (hx.2 x hxx).2⟩⟩), by omega, hAl, b13⟩
  clear R1 R2 R3 b1 b2 b3 b13
  -- how many functions
  obtain ⟨n1', s1', g1⟩ : ∃ x s, nx numR 0 l (0, 0) = (x, s) := ⟨_, _, rfl⟩
  have K := many_any hR.rr 64
  rw [g1] at K
  have hc1 := hid (cnt_many (most := 64) (g := getC) g1)
  obtain ⟨N, hN, hNm⟩ := many_nat 64 n1' s1'
  dsimp only at K
  replace hN : manyD 64 n1' s1' = N := hN
  rw [hN] at K
  obtain ⟨t1, ht1⟩ : ∃ t, chk 64 111 (n1', s1') = t := ⟨_, rfl⟩
  rw [ht1] at K
  have hc1 : Hid (cnt 64 111 getC l (0, 0) = getL getC N l t1) := by have := hc1.out; rw [hN, ht1, Int.toNat_natCast] at this; exact hid this
  clear g1 hN ht1
  replace hR := hid hR
  replace K := hid K
  go_enter Tryd.func15, Tryd.ntmps15
  go_wp2_with fail
  refine K.out.mono ?_
  rintro e w6 ⟨rfl, h6, G6⟩
  clear K hw1 hw2 hw3 n1 n2 n3
  replace hR := hid (hR.out.next h6 G6)
  clear h6 G6
  go_wp2_with fail
  go_loopw [7] (fun i W => ∃ (j : Nat) (sk : Int × Int) (xs : List Co) (v : Value), i = .int .i64 j ∧ (j ≤ N ∧ xs.length = j) ∧ Hid (getL getC N l t1 = (xs.map Co.data ++ (getL getC (N - j) l sk).1, (getL getC (N - j) l sk).2)) ∧ Rh w W w.heap.size (w.heap.size + 2) (w.heap.size + 1) [.slice none 0 0, .slice none 0 0] [v, .slice none 0 0] A c l sk (fun W => OwnEls coEl W (w.heap.size + 3) 46 v xs ∧ ∀ x ∈ xs, CoOwn W (w.heap.size + 3) x ∧ CoApart v x)) (fun i _ => N - (RowKit.intOf i).toNat)
  case atStart => exact ⟨0, t1, [], .slice none 0 0, rfl, ⟨by omega, rfl⟩, hid (by simp), hR.out⟩
  case round =>
  obtain ⟨j, sk, xs, v, rfl, ⟨hj, hol⟩, hgl, hR⟩ := hrel
  replace hol := hid hol
  have C2 := (hR.rr.row.2 2 _ rfl).1
  go_upto_region 5 with fail
  go_cut [27] (fun sq wx => sq = .bool (decide (j < N ∧ sk.2 = 0)) ∧ wx = wr)
  case first =>
    by_cases hn : (j : Int) < (N : Int)
    · have jn : decide ((j : Int) < (N : Int)) = true := decide_eq_true hn
      have hn2 := hid (show j < N by omega)
      replace hR := hid hR
      go_wp2_with fail
      go_meet
      exact ⟨congrArg Value.bool (by by_cases hz : sk.2 = 0 <;> simp [hn2.out, hz]), rfl⟩
    · have jn : decide ((j : Int) < (N : Int)) = false := decide_eq_false hn
      have hn2 := hid (show ¬ j < N by omega)
      replace hR := hid hR
      go_wp2_with fail
      go_meet
      exact ⟨congrArg Value.bool (decide_eq_false (fun hh => hn2.out hh.1)).symm, rfl⟩
  case rest =>
  obtain ⟨rfl, rfl⟩ := hcut
  clear C2
  by_cases hgo : j < N ∧ sk.2 = 0
  case pos =>
    rw [decide_eq_true hgo]
    obtain ⟨hlt, hz⟩ := hgo
    obtain ⟨r, hr⟩ : ∃ r : Nat, N - j = r + 1 := ⟨N - j - 1, by omega⟩
    have hgs := hgl.out
    rw [hr, getL_ok getC r l sk hz] at hgs
    have hr2 : N - (j + 1) = r := by omega
    rw [← hr2] at hgs
    obtain ⟨pk, rk⟩ := sk
    have hz : rk = 0 := hz
    subst hz
    have KO := rrcode_any hR.rr
    obtain ⟨yd, s2, hy⟩ : ∃ y s2, getC l (pk, 0) = (y, s2) := ⟨_, _, rfl⟩
    rw [hy] at KO hgs
    dsimp only at KO hgs
    clear hy
    replace KO := hid KO
    have HGL := hid hgs
    clear hgs hgl hr hr2
    have zk := hR.r2.1
    have hvb := hid (fun k (hk : v.ownBlock = some k) => (own_lt hR.x.1.1 hk).2)
    replace hR := hid hR
    go_wp2_with fail
    refine KO.out.mono ?_
    rintro e w3 ⟨y, rfl, hyd, ownY, h3, G3⟩
    clear KO
    replace hR := hR.out.next h3 G3
    have zk3 := G3.size
    have hP3 := hid (show ∀ x ∈ xs ++ [y], CoOwn w3 (w.heap.size + 3) x ∧ CoApart v x from fun x hx => by
      rcases List.mem_append.1 hx with hx | hx
      · exact hR.x.2 x hx
      · rw [List.mem_singleton.1 hx]; exact ⟨ownY.mono (by omega), CoApart.new ownY hvb.out⟩)
    have bX := below_alloc w3 (.cells #[.string (str y.nm), .slice y.pA y.ps.length y.pc, .int .i64 y.res, .int .i64 y.slots, .slice y.iA y.is.length y.ic] 46)
    have RX := Row.new w3 [.string (str y.nm), .slice y.pA y.ps.length y.pc, .int .i64 y.res, .int .i64 y.slots, .slice y.iA y.is.length y.ic] 46
    replace RX := hid RX
    replace hR := hid hR
    replace bX := hid bX
    go_upto_region 8 with fail
    replace RX := RX.out
    change Row (w3.alloc (.cells #[.string (str y.nm), .slice y.pA y.ps.length y.pc, .int .i64 y.res, .int .i64 y.slots, .slice y.iA y.is.length y.ic] 46)) _ _ at RX
    obtain ⟨kX, hkX⟩ : ∃ k, k = w3.heap.size := ⟨_, rfl⟩
    generalize w3.alloc (.cells #[.string (str y.nm), .slice y.pA y.ps.length y.pc, .int .i64 y.res, .int .i64 y.slots, .slice y.iA y.is.length y.ic] 46) = wz at bX RX ⊢
    rw [← hkX] at RX ⊢
    replace hkX := hid hkX
    replace hR := hR.out.on bX.out
    have hPz := hid (fun x hx => CoOwn.both (hP3.out x hx) bX.out)
    have X0 := (RX.2 0 _ rfl).1
    have X1 := (RX.2 1 _ rfl).1
    have X2 := (RX.2 2 _ rfl).1
    have X3 := (RX.2 3 _ rfl).1
    have X4 := (RX.2 4 _ rfl).1
    replace RX := hid RX
    clear hP3 bX G3 h3 ownY
    replace hj := hid hj
    replace hlt := hid hlt
    have zB := hR.r2.1
    have bB := below_alloc wz (.cells #[.string (str y.nm), .slice y.pA y.ps.length y.pc, .int .i64 y.res, .int .i64 y.slots, .slice y.iA y.is.length y.ic] 46)
    have rB := rd_box wz #[.string (str y.nm), .slice y.pA y.ps.length y.pc, .int .i64 y.res, .int .i64 y.slots, .slice y.iA y.is.length y.ic] 46
    have hRB := hR.on bB
    have hE4 := hRB.x.1
    have hPB := hid (fun x hx => CoOwn.both (hPz.out x hx) bB)
    have CC := hR.c2 0 _ rfl
    have hzB : w.heap.size + 3 ≤ (wz.alloc (.cells #[.string (str y.nm), .slice y.pA y.ps.length y.pc, .int .i64 y.res, .int .i64 y.slots, .slice y.iA y.is.length y.ic] 46)).heap.size := Nat.le_trans zB bB.size
    replace hRB := hid hRB
    replace hR := hid hR
    have hj4 : xs.length ≤ 64 := by have := hj.out; have := hol.out; omega
    have z2 := hlt.out
    go_wp2_with (at_builtin; refine wpList_app rfl (.tmp 33) (.tmp 35) 22 rfl (w.heap.size + 3) 46 Tryd.underlying22 info_co rfl (by decide) v xs.length (xs.flatMap coEl.cells) rfl hE4.1 (some ⟨wz.heap.size, 0, none⟩) 1 1 [.string (str y.nm), .slice y.pA y.ps.length y.pc, .int .i64 y.res, .int .i64 y.slots, .slice y.iA y.is.length y.ic] rfl rfl rB (by intro u hu; simp at hu; rcases hu with rfl | rfl | rfl | rfl | rfl <;> rfl) (by omega) (by omega) hzB ?_; intro v7 w7 own7 hg7 hat7; have E7 : OwnEls coEl w7 (w.heap.size + 3) 46 v7 (xs ++ [y]) := ⟨by rw [List.length_append, List.flatMap_append, show List.flatMap coEl.cells [y] = [.string (str y.nm), .slice y.pA y.ps.length y.pc, .int .i64 y.res, .int .i64 y.slots, .slice y.iA y.is.length y.ic] from rfl]; exact own7, fun a ha p hp => by cases hp⟩; have P7 : ∀ x ∈ xs ++ [y], CoOwn w7 (w.heap.size + 3) x ∧ CoApart v7 x := (fun x hx => CoOwn.appd (hPB.out x hx) hg7 hat7); have hR7 := Rh.grown hRB.out hg7 (fun k e => by have := (own_lt hE4.1 e).1; omega) (Y := (fun W => OwnEls coEl W (w.heap.size + 3) 46 v7 (xs ++ [y]) ∧ ∀ x ∈ (xs ++ [y]), CoOwn W (w.heap.size + 3) x ∧ CoApart v7 x)) ⟨E7, P7⟩ (fun k W1 W2 hk hG _ hx => ⟨keep_elsc (m := w.heap.size + 3) (fun _ => rfl) (Nat.le_refl _) (by omega) hG hx.1, fun x hxx => ⟨(hx.2 x hxx).1.gro hG (by omega), (hx.2 x hxx).2⟩⟩); have CC7 := hR7.c2 0 _ rfl; have FF7 := hR7.f2 0 _ rfl; have hR8 := hR7.set 0 (by simp) v7; replace hR7 := hid hR7; replace hR8 := hid hR8; clear P7 E7; obtain ⟨A7, c7, rfl, _⟩ := own_shape own7)
    replace hR8 := hR8.out
    simp only [List.set_cons_zero] at hR8
    replace hR8 := hid hR8
    (try go_wp2_with fail)
    go_roundw
    case rel => exact ⟨j + 1, s2, xs ++ [y], _, by go_num, ⟨by have := hlt.out; omega, by rw [List.length_append]; simp [hol.out]⟩, hid (by rw [HGL.out, List.map_append, List.append_assoc, ← hyd]; rfl), hR8.out⟩
    case measure => have := hlt.out; simp [RowKit.intOf]; omega
  case neg =>
  rw [decide_eq_false hgo]
  have h1 : cnt 64 111 getC l (0, 0) = (xs.map Co.data, sk) := by
    rw [hc1.out, hgl.out]
    by_cases hz : sk.2 = 0
    · rw [show N - j = 0 by omega]; simp [getL]
    · rw [getL_err getC _ l sk hz]; simp
  replace h1 := hid h1
  clear hgl hgo hj hol hc1
  obtain ⟨wn, hwn⟩ : ∃ x : World, x = wc := ⟨_, rfl⟩
  rw [← hwn] at hR ⊢
  clear hwn
  obtain ⟨Ax, cx, rfl, _, _, _⟩ := own_shape hR.x.1.1
  obtain ⟨tds, s2, h2⟩ : ∃ x s, nx rowR [] l sk = (x, s) := ⟨_, _, rfl⟩
  have hrd := hid (readMo_is (getMo_is h1.out h2))
  obtain ⟨p1, e1⟩ := sk
  have C2 := (hR.rr.row.2 2 _ rfl).1
  by_cases hz : e1 = 0
  case neg =>
    have jz : (e1 != 0) = true := by simp [hz]
    rw [nx_no _ _ _ _ hz] at h2
    injection h2 with h2 h2'
    have hr : readMo l = (zeroMo, e1) := by
      have := hrd.out
      rw [← h2'] at this
      unfold endM at this
      rw [if_neg hz, if_neg hz] at this
      exact this
    clear hrd h2 h2'
    have C0 := hR.c1 0 _ rfl
    have F0 := hR.f1 0 _ rfl
    have C1 := hR.c1 1 _ rfl
    have F1 := hR.f1 1 _ rfl
    replace hR := hid hR
    replace hr := hid hr
    go_upto_region 10 with fail
    have bcur := (Below.refl wn.heap.size wn).drew
    have hF := ((hR.out.set1 0 (by simp) (.slice none 0 0)).set1 1 (by simp) (.slice none 0 0)).on (Below.refl _ _).drew
    simp only [List.set_cons_zero, List.set_cons_succ] at hF
    replace hF := hid hF
    refine wp_region_noPanic ?_
    refine wp_region_held_drew (S := (fun W => W.cell? ⟨w.heap.size + 1, 2, none⟩ = some (.int .i64 e1))) (by kernel_rfl) ?_ (fun hHeld => ?_)
    · exact C2
    refine wpAnyH_take (i := 0) (oi := ?oi1) (v := ?v1) ?hi1 (by kernel_rfl) (by kernel_rfl) (by kernel_rfl) ?hQ1 ?hy1 (by assumption) ?hrest1
    case hi1 => (simp only [List.getElem?_toArray, List.getElem?_cons_zero]; try rfl)
    case hQ1 => exact fun _ _ _ h => h
    case hy1 =>
      refine Or.inl ⟨by rfl, ?_⟩
      (intro wq hSw; (try dsimp only at hSw); go_simp; try with_reducible rfl)
    (try simp only [Act.put, List.setIfInBounds_toArray, List.set_cons_zero, List.set_cons_succ])
    refine wpAnyH_take (i := 1) (oi := ?oi2) (v := ?v2) ?hi2 (by kernel_rfl) (by kernel_rfl) (by kernel_rfl) ?hQ2 ?hy2 (by assumption) ?hrest2
    case hi2 => (simp only [List.getElem?_toArray, List.getElem?_cons_succ, List.getElem?_cons_zero]; try rfl)
    case hQ2 => exact fun _ _ _ h => h
    case hy2 =>
      refine Or.inl ⟨by rfl, ?_⟩
      (intro wq hSw; (try dsimp only at hSw); go_simp; try with_reducible rfl)
    (try simp only [Act.put, List.setIfInBounds_toArray, List.set_cons_zero, List.set_cons_succ])
    refine wpAnyH_take (i := 2) (oi := ?oi3) (v := ?v3) ?hi3 (by kernel_rfl) (by kernel_rfl) (by kernel_rfl) ?hQ3 ?hy3 (by assumption) ?hrest3
    case hi3 => (simp only [List.getElem?_toArray, List.getElem?_cons_succ, List.getElem?_cons_zero]; try rfl)
    case hQ3 => exact fun _ _ _ h => h
    case hy3 =>
      refine Or.inl ⟨by rfl, ?_⟩
      (intro wq hSw; (try dsimp only at hSw); go_simp; try with_reducible rfl)
    (try simp only [Act.put, List.setIfInBounds_toArray, List.set_cons_zero, List.set_cons_succ])
    refine wpAnyH_take (i := 3) (oi := ?oi4) (v := ?v4) ?hi4 (by kernel_rfl) (by kernel_rfl) (by kernel_rfl) ?hQ4 ?hy4 (by assumption) ?hrest4
    case hi4 => (simp only [List.getElem?_toArray, List.getElem?_cons_succ, List.getElem?_cons_zero]; try rfl)
    case hQ4 => exact fun _ _ _ h => h
    case hy4 =>
      refine Or.inl ⟨by rfl, ?_⟩
      (intro wq hSw; (try dsimp only at hSw); go_simp; try with_reducible rfl)
    (try simp only [Act.put, List.setIfInBounds_toArray, List.set_cons_zero, List.set_cons_succ])
    refine wpAnyH_take (i := 4) (oi := ?oi5) (v := ?v5) ?hi5 (by kernel_rfl) (by kernel_rfl) (by kernel_rfl) ?hQ5 ?hy5 (by assumption) ?hrest5
    case hi5 => (simp only [List.getElem?_toArray, List.getElem?_cons_succ, List.getElem?_cons_zero]; try rfl)
    case hQ5 => exact fun _ _ _ h => h
    case hy5 =>
      refine Or.inl ⟨by rfl, ?_⟩
      (intro wq hSw; (try dsimp only at hSw); go_simp; try with_reducible rfl)
    (try simp only [Act.put, List.setIfInBounds_toArray, List.set_cons_zero, List.set_cons_succ])
    refine wpAnyH_ready (rs := [5]) (by kernel_rfl) (by simp) ?_
    refine AllReadyH.cons (o := ?oi6) ?hi6 (fun K hK => ?hstep6) AllReadyH.nil
    case hi6 => (simp only [List.getElem?_toArray, List.getElem?_cons_succ, List.getElem?_cons_zero]; try rfl)
    go_simp
    (skip)
    refine hK.out _ _ ?_ (fun hHeld => ?_)
    · exact (World.cell?_setCell_other _ _ _ _ (by simp)).trans ((World.cell?_setCell_other _ _ _ _ (by simp)).trans C2)
    clear hK K
    (try simp only [Act.put, List.setIfInBounds_toArray, List.set_cons_zero, List.set_cons_succ])
    refine wpAnyH_take (i := 6) (oi := ?oi7) (v := ?v7) ?hi7 (by kernel_rfl) (by kernel_rfl) (by kernel_rfl) ?hQ7 ?hy7 (by assumption) ?hrest7
    case hi7 => (simp only [List.getElem?_toArray, List.getElem?_cons_succ, List.getElem?_cons_zero]; try rfl)
    case hQ7 => exact fun _ _ _ h => h
    case hy7 =>
      refine Or.inl ⟨by rfl, ?_⟩
      (intro wq hSw; (try dsimp only at hSw); go_simp; try with_reducible rfl)
    (try simp only [Act.put, List.setIfInBounds_toArray, List.set_cons_zero, List.set_cons_succ])
    refine wpAnyH_done (by kernel_rfl) ?_ _
    refine NoPanic.normal ?_
    (skip)
    clear C0 C1 C2 F0 F1
    replace hF := hF.out
    generalize World.drew _ = w7 at hF ⊢
    go_wp2_with fail
    refine bodyPost_ret (results_cell2 (k := 2) (k2 := 3) (t := 25) Tryd.results15 rfl rfl hF.r1 Tryd.underlying25 rfl (by kernel_rfl)) rfl ?_
    exact ⟨⟨none, 0, [], none, 0, []⟩, by rw [hr.out]; rfl, by rw [hr.out]; rfl, ⟨Els.nil _ _ _, fun x hx => (by cases hx), Els.nil _ _ _, by decide, by decide⟩, hF.below⟩
  case pos =>
  subst hz
  rw [nx_ok] at h2
  have K := rrow_any hR.rr.rd hR.rr.cap hR.rr.len p1
  rw [h2] at K
  clear h2
  obtain ⟨p2, e2⟩ := s2
  dsimp only at K
  have C1 := (hR.rr.row.2 1 _ rfl).1
  replace hR := hid hR
  replace K := hid K
  go_wp2_with fail
  refine K.out.mono ?_
  rintro e w6 ⟨vt, rfl, ownT, hb6⟩
  clear K C1 C2
  replace hR := hR.out
  have z6 := hR.r2.1
  replace hR := hR.on hb6
  by_cases hz : e2 = 0
  case neg =>
    have jz : (e2 != 0) = true := by simp [hz]
    have hr : readMo l = (zeroMo, e2) := by
      have := hrd.out
      unfold endM at this
      rw [if_neg hz, if_neg hz] at this
      exact this
    have C0 := hR.c1 0 _ rfl
    have F0 := hR.f1 0 _ rfl
    have C1 := hR.c1 1 _ rfl
    have F1 := hR.f1 1 _ rfl
    have hF := ((hR.set1 0 (by simp) (.slice none 0 0)).set1 1 (by simp) (.slice none 0 0))
    simp only [List.set_cons_zero, List.set_cons_succ] at hF
    replace hF := hid hF
    replace hR := hid hR
    replace hr := hid hr
    replace ownT := hid ownT
    go_wp2_with fail
    clear C0 C1 F0 F1
    replace hF := hF.out
    generalize World.setCell _ _ _ = w7 at hF ⊢
    refine bodyPost_ret (results_cell2 (k := 2) (k2 := 3) (t := 25) Tryd.results15 rfl rfl hF.r1 Tryd.underlying25 rfl (by kernel_rfl)) rfl ?_
    exact ⟨⟨none, 0, [], none, 0, []⟩, by rw [hr.out]; rfl, by rw [hr.out]; rfl, ⟨Els.nil _ _ _, fun x hx => (by cases hx), Els.nil _ _ _, by decide, by decide⟩, hF.below⟩
  case pos =>
  subst hz
  obtain ⟨ts, hts, hT⟩ := TxOwn.of (ownT.mono (show w.heap.size + 3 ≤ wn.heap.size by omega))
  obtain ⟨At, ct, rfl, _⟩ := own_shape hT.1
  replace hR := hR.more (Y := fun W => TxOwn W (w.heap.size + 3) (.slice At ts.length ct) ts) hT (fun k W1 W2 hk hG _ hx => hx.gro hG (by omega))
  have CC := hR.c2 1 _ rfl
  have F := hR.f2 1 _ rfl
  replace hR := hid (hR.set 1 (by simp) (.slice At ts.length ct))
  clear ownT hT
  go_upto_region 15 with fail
  clear CC F
  replace hR := hR.out
  generalize World.setCell _ _ _ = w7 at hR ⊢
  simp only [List.set_cons_zero, List.set_cons_succ] at hR
  have hD : (⟨Ax, cx, xs, At, ct, ts⟩ : Mo).data = (xs.map Co.data, tds) := by
    unfold Mo.data; dsimp only; rw [hts]
  have hM := mo_read hR.x.1.1 (fun x hx => (hR.x.1.2 x hx).1) hR.x.2
  have KR := rright_any hM
  rw [hD] at KR
  replace hrd := hrd.out
  generalize rightMo (xs.map Co.data, tds) = R at KR hrd
  dsimp only at KR
  have D0 := hR.c2 0 _ rfl
  have D1 := hR.c2 1 _ rfl
  replace KR := hid KR
  replace hrd := hid hrd
  replace hD := hid hD
  replace hts := hid hts
  replace hR := hid hR
  clear hM
  go_wp2_with fail
  refine KR.out.mono ?_
  rintro e w8 ⟨rfl, hb8⟩
  clear KR D0 D1
  replace hR := hR.out.on hb8
  have C0 := hR.c1 0 _ rfl
  have F0 := hR.f1 0 _ rfl
  have C1 := hR.c1 1 _ rfl
  have F1 := hR.f1 1 _ rfl
  have D0 := hR.c2 0 _ rfl
  have D1 := hR.c2 1 _ rfl
  by_cases hgood : p2 = (l.length : Int) ∧ R = true
  · have jp : (p2 != (l.length : Int)) = false := by simp [hgood.1]
    have hr : readMo l = ((xs.map Co.data, tds), 0) := by
      have := hrd.out
      unfold endM at this
      rw [if_pos rfl, if_pos hgood, if_pos rfl] at this
      exact this
    have hRt := hgood.2
    subst hRt
    have hF := ((hR.set1 0 (by simp) (.slice Ax xs.length cx)).set1 1 (by simp) (.slice At ts.length ct))
    simp only [List.set_cons_zero, List.set_cons_succ] at hF
    replace hF := hid hF
    replace hR := hid hR
    replace hr := hid hr
    replace hgood := hid hgood
    clear hrd
    go_wp2_with fail
    clear C0 C1 F0 F1 D0 D1
    replace hF := hF.out
    generalize World.setCell _ _ _ = w9 at hF ⊢
    obtain ⟨⟨hE, hP⟩, hT⟩ := hF.x
    refine bodyPost_ret (results_cell2 (k := 2) (k2 := 3) (t := 25) Tryd.results15 rfl rfl hF.r1 Tryd.underlying25 rfl (by kernel_rfl)) rfl ?_
    exact ⟨⟨Ax, cx, xs, At, ct, ts⟩, by rw [hr.out]; rfl, by rw [hr.out]; exact hD.out, mo_read hE (fun x hx => (hP x hx).1) hT, hF.below⟩
  · have hr : readMo l = (zeroMo, 111) := by
      have := hrd.out
      unfold endM at this
      rw [if_pos rfl, if_neg hgood, if_neg (by decide)] at this
      exact this
    have hF := ((hR.set1 0 (by simp) (.slice none 0 0)).set1 1 (by simp) (.slice none 0 0))
    simp only [List.set_cons_zero, List.set_cons_succ] at hF
    replace hF := hid hF
    replace hR := hid hR
    replace hr := hid hr
    clear hrd
    by_cases hp : p2 = (l.length : Int)
    · have jp : (p2 != (l.length : Int)) = false := by simp [hp]
      have hRf : R = false := by cases R; rfl; exact absurd ⟨hp, rfl⟩ hgood
      subst hRf
      replace hp := hid hp
      replace hgood := hid hgood
      go_wp2_with fail
      clear C0 C1 F0 F1 D0 D1
      replace hF := hF.out
      generalize World.setCell _ _ _ = w9 at hF ⊢
      refine bodyPost_ret (results_cell2 (k := 2) (k2 := 3) (t := 25) Tryd.results15 rfl rfl hF.r1 Tryd.underlying25 rfl (by kernel_rfl)) rfl ?_
      exact ⟨⟨none, 0, [], none, 0, []⟩, by rw [hr.out]; rfl, by rw [hr.out]; rfl, ⟨Els.nil _ _ _, fun x hx => (by cases hx), Els.nil _ _ _, by decide, by decide⟩, hF.below⟩
    · have jp : (p2 != (l.length : Int)) = true := by simp [hp]
      replace hp := hid hp
      replace hgood := hid hgood
      go_wp2_with fail
      clear C0 C1 F0 F1 D0 D1
      replace hF := hF.out
      generalize World.setCell _ _ _ = w9 at hF ⊢
      refine bodyPost_ret (results_cell2 (k := 2) (k2 := 3) (t := 25) Tryd.results15 rfl rfl hF.r1 Tryd.underlying25 rfl (by kernel_rfl)) rfl ?_
      exact ⟨⟨none, 0, [], none, 0, []⟩, by rw [hr.out]; rfl, by rw [hr.out]; rfl, ⟨Els.nil _ _ _, fun x hx => (by cases hx), Els.nil _ _ _, by decide, by decide⟩, hF.below⟩
end Go.Proofs.YtnkocbdbfkhgmaaDoor
