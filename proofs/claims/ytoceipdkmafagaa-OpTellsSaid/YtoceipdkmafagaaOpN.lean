import Derived.Test.YtoceipdkmafagaaOpM
import Derived.Test.YtoceipdkmafagaaOpC
import Derived.Test.YtoceipdkmafagaaPlain1
/-! op: the operation of bytes -/
namespace Go.Proofs.Ytoceipdkmafagaa
open Go.RowKit Go.Cov
/-- what is read -/
structure OaOwn (w : World) (o : Oa) : Prop where
  rd : OaRd w o
  sc : o.s.length ≤ o.sc ∧ o.sc ≤ maxLen
  kc : o.key.length ≤ o.kc ∧ o.kc ≤ maxLen
theorem OaOwn.below {w w' : World} {o : Oa} (h : OaOwn w o) (hb : Below w.heap.size w w') : OaOwn w' o := ⟨h.rd.below hb, h.sc, h.kc⟩
def zeroOa : Oa := ⟨0, [], none, 0, [], [], none, 0, [], 0, none, 0, []⟩
theorem zeroOa_own (w : World) : OaOwn w zeroOa := ⟨⟨Rd.nil _ _, Els.nil _ _ _, Rd.nil _ _, by decide⟩, by decide, by decide⟩
theorem conv_text (w : World) {A : Option Addr} {l : List UInt8} (h : Rd w A (l.map byt)) (cap : Nat) : (convert 22 9 (.slice A l.length cap)).run Try.prog w = .ok (.string (str l)) w := conv_bs Try.underlying22 Try.underlying5 Try.underlying9 h cap
theorem infoV : (Try.prog.info? 29).map (fun i => (i.zero, i.size, i.bytes)) = some (some (.agg #[.int .i64 0, .int .i64 0, .slice none 0 0]), 3, 40) := by kernel_rfl
theorem str_nil : str [] = ⟨#[]⟩ := rfl
def zeroCells : List Value := [.int .i64 0, .string ⟨#[]⟩, .slice none 0 0, .string ⟨#[]⟩, .slice none 0 0, .int .i64 0, .slice none 0 0]
set_option maxRecDepth 100000 in
set_option maxHeartbeats 12800000 in
theorem get_any {A : Option Addr} {c : Nat} {l : List UInt8} {w : World} (h : Rd w A (l.map byt)) (hc : l.length ≤ c) (hl : l.length ≤ 140737488351236) :
    Calls Try.prog 15 #[.slice A l.length c] w fun e w' => ∃ o : Oa, e = .returned (.tuple #[o.val, .int .i64 (readO l).2]) ∧ o.data = (readO l).1 ∧ OaOwn w' o ∧ Below w.heap.size w w' := by
  have hAl := rd_lt h
  have b1 := below_alloc w (.cells zeroCells.toArray 25)
  have R1 := Row.new w zeroCells 25
  unfold zeroCells at b1 R1
  go_enter Try.func15, Try.ntmps15
  go_upto_region 1 with fail
  generalize hw1 : w.alloc _ = w1 at b1 R1 ⊢
  have n1 : w1.heap.size = w.heap.size + 1 := by rw [← hw1]; simp
  clear hw1
  have b2 := below_alloc w1 (.cells zeroCells.toArray 25)
  have R2 := Row.new w1 zeroCells 25
  unfold zeroCells at b2 R2
  have R1' := R1.below b2
  go_upto_region 2 with fail
  generalize hw2 : w1.alloc _ = w2 at b2 R2 R1' ⊢
  have n2 : w2.heap.size = w.heap.size + 2 := by rw [← hw2]; simp [n1]
  clear hw2
  have b12 := below_step b1 b2
  rw [n1] at R2
  clear R1 b1 b2 n1
  have b3 := below_alloc w2 (.cells #[.slice A l.length c, .int .i64 0, .int .i64 0] 67)
  have R3 := Row.new w2 [.slice A l.length c, .int .i64 0, .int .i64 0] 67
  go_upto_region 3 with fail
  generalize hw3 : w2.alloc _ = w3 at b3 R3 ⊢
  clear hw3
  rw [n2] at R3
  have b13 := below_step b12 b3
  have hR : Rg w w3 w.heap.size (w.heap.size + 1) (w.heap.size + 2) [.int .i64 0, .string ⟨#[]⟩, .slice none 0 0, .string ⟨#[]⟩, .slice none 0 0, .int .i64 0, .slice none 0 0] [.int .i64 0, .string ⟨#[]⟩, .slice none 0 0, .string ⟨#[]⟩, .slice none 0 0, .int .i64 0, .slice none 0 0] A c l (0, 0) (fun _ => True) :=
    ⟨R1'.below b3, R2.below b3, ⟨R3, h.below b13, fun hn ad ha => by have := hAl hn ad ha; omega, hc, hl⟩, trivial, fun _ _ _ _ _ _ _ => trivial, by omega, hAl, b13⟩
  clear R1' R2 R3 b3 b12 n2 b13
  -- number 1
  go_wp2_with fail
  refine (nextnum_any hR.rr).mono ?_
  rintro e w3 ⟨rfl, h3, G3⟩
  replace hR := hR.next h3 G3
  obtain ⟨e1, s1, he1⟩ : ∃ e s, nx numR 0 l ((0 : Int), (0 : Int)) = (e, s) := ⟨_, _, rfl⟩
  rw [he1] at hR ⊢
  have C := hR.c2 0 _ rfl
  have F := hR.f2 0 _ rfl
  replace hR := hR.set 0 (by simp) (.int .i64 e1)
  go_upto_region 4 with fail
  clear C F h3 G3
  generalize World.setCell _ _ _ = w4 at hR ⊢
  simp only [List.set_cons_zero] at hR
  -- text 2
  go_wp2_with fail
  refine (nexttext_any hR.rr).mono ?_
  rintro e w3 ⟨v2, rfl, o3, h3, G3⟩
  have z3 := hR.rr.row.1
  replace hR := hR.next h3 G3
  obtain ⟨e2, s2, he2⟩ : ∃ e s, nx bytesR [] l s1 = (e, s) := ⟨_, _, rfl⟩
  rw [he2] at hR o3
  obtain ⟨A2, c2, rfl, hc2, hm2, _⟩ := own_shape o3
  have CV := conv_text w3 (own_rd o3) c2
  have C := hR.c2 1 _ rfl
  have F := hR.f2 1 _ rfl
  replace hR := hR.set 1 (by simp) (.string (str e2))
  go_upto_region 5 with fail
  clear C F h3 G3 o3 CV z3
  generalize World.setCell _ _ _ = w4 at hR ⊢
  simp only [List.set_cons_zero, List.set_cons_succ] at hR
  -- text 3
  go_wp2_with fail
  refine (nexttext_any hR.rr).mono ?_
  rintro e w3 ⟨v3, rfl, o3, h3, G3⟩
  have z3 := hR.rr.row.1
  replace hR := hR.next h3 G3
  obtain ⟨e3, s3, he3⟩ : ∃ e s, nx bytesR [] l s2 = (e, s) := ⟨_, _, rfl⟩
  rw [he3] at hR o3
  obtain ⟨A3, c3, rfl, hc3, hm3, _⟩ := own_shape o3
  replace hR := hR.more (own_mono o3 z3) (fun k W1 W2 hk hG _ hx => keep_own hk hG hx)
  have C := hR.c2 2 _ rfl
  have F := hR.f2 2 _ rfl
  replace hR := hR.set 2 (by simp) (.slice A3 e3.length c3)
  go_upto_region 6 with fail
  clear C F h3 G3 o3 z3
  generalize World.setCell _ _ _ = w4 at hR ⊢
  simp only [List.set_cons_zero, List.set_cons_succ] at hR
  -- text 4
  go_wp2_with fail
  refine (nexttext_any hR.rr).mono ?_
  rintro e w3 ⟨v4, rfl, o3, h3, G3⟩
  have z3 := hR.rr.row.1
  replace hR := hR.next h3 G3
  obtain ⟨e4, s4, he4⟩ : ∃ e s, nx bytesR [] l s3 = (e, s) := ⟨_, _, rfl⟩
  rw [he4] at hR o3
  obtain ⟨A4, c4, rfl, hc4, hm4, _⟩ := own_shape o3
  have CV := conv_text w3 (own_rd o3) c4
  have C := hR.c2 3 _ rfl
  have F := hR.f2 3 _ rfl
  replace hR := hR.set 3 (by simp) (.string (str e4))
  go_upto_region 7 with fail
  clear C F h3 G3 o3 CV z3
  generalize World.setCell _ _ _ = w4 at hR ⊢
  simp only [List.set_cons_zero, List.set_cons_succ] at hR
  -- number 5
  go_wp2_with fail
  refine (nextnum_any hR.rr).mono ?_
  rintro e w3 ⟨rfl, h3, G3⟩
  replace hR := hR.next h3 G3
  obtain ⟨e5, s5, he5⟩ : ∃ e s, nx numR 0 l s4 = (e, s) := ⟨_, _, rfl⟩
  rw [he5] at hR ⊢
  go_upto_region 8 with fail
  clear h3 G3
  go_cut [39] (fun s39 wx => s39 = .bool (decide (s5.2 = 0 ∧ (e5 < 0 ∨ 16 < e5))) ∧ Rg w wx w.heap.size (w.heap.size + 1) (w.heap.size + 2) [.int .i64 0, .string ⟨#[]⟩, .slice none 0 0, .string ⟨#[]⟩, .slice none 0 0, .int .i64 0, .slice none 0 0] [.int .i64 e1, .string (str e2), .slice A3 e3.length c3, .string (str e4), .slice none 0 0, .int .i64 0, .slice none 0 0] A c l s5 (fun W => True ∧ W.ownsRow (w.heap.size + 2 + 1) 5 1 (.slice A3 e3.length c3) e3.length (e3.map byt)))
  case first =>
    obtain ⟨p5, r5⟩ := s5
    have C2 := (hR.rr.row.2 2 _ rfl).1
    by_cases z5 : r5 = 0
    · subst z5
      by_cases n5 : e5 < 0
      · have j5 : decide (e5 < 0) = true := decide_eq_true n5
        go_wp2_with fail
        go_meet
        exact ⟨congrArg Value.bool (decide_eq_true ⟨trivial, .inl n5⟩).symm, hR⟩
      · have j5 : decide (e5 < 0) = false := decide_eq_false n5
        go_wp2_with fail
        go_meet
        exact ⟨congrArg Value.bool (decide_eq_decide.2 ⟨fun h => ⟨trivial, .inr h⟩, fun h => h.2.resolve_left (by omega)⟩), hR⟩
    · have y5 : (r5 == 0) = false := by simp [z5]
      go_wp2_with fail
      go_meet
      exact ⟨by simp [z5], hR⟩
  case rest =>
  clear hR
  obtain ⟨rfl, hR⟩ := hcut
  go_upto_if 39 with fail
  go_cut [6] (fun s6 wx => s6 = .int .i64 e5 ∧ Rg w wx w.heap.size (w.heap.size + 1) (w.heap.size + 2) [.int .i64 0, .string ⟨#[]⟩, .slice none 0 0, .string ⟨#[]⟩, .slice none 0 0, .int .i64 0, .slice none 0 0] [.int .i64 e1, .string (str e2), .slice A3 e3.length c3, .string (str e4), .slice none 0 0, .int .i64 0, .slice none 0 0] A c l (chk 16 151 (e5, s5)) (fun W => True ∧ W.ownsRow (w.heap.size + 2 + 1) 5 1 (.slice A3 e3.length c3) e3.length (e3.map byt)))
  case first =>
    by_cases hz : s5.2 = 0 ∧ (e5 < 0 ∨ 16 < e5)
    · have hd : decide (s5.2 = 0 ∧ (e5 < 0 ∨ 16 < e5)) = true := decide_eq_true hz
      have F2 := (hR.rr.row.2 2 _ rfl).2
      have C2 := (hR.rr.row.2 2 _ rfl).1
      have hS := hR.err 151
      go_wp2_with fail
      go_meet
      refine ⟨rfl, ?_⟩
      unfold chk
      rw [if_pos hz]
      exact hS
    · have hd : decide (s5.2 = 0 ∧ (e5 < 0 ∨ 16 < e5)) = false := decide_eq_false hz
      go_wp2_with fail
      go_meet
      refine ⟨rfl, ?_⟩
      unfold chk
      rw [if_neg hz]
      exact hR
  case rest =>
  clear hR
  obtain ⟨rfl, hR⟩ := hcut
  have hck : (chk 16 151 (e5, s5)).2 = 0 → e5.toNat ≤ 16 := by
    unfold chk
    split
    · intro hh; exact absurd hh (show ¬ ((151 : Int) = 0) by decide)
    · rename_i hh; intro h0; dsimp only at hh h0; by_cases hx : 16 < e5; exact absurd ⟨h0, .inr hx⟩ hh; omega
  obtain ⟨sc, hsc⟩ : ∃ sc, sc = chk 16 151 (e5, s5) := ⟨_, rfl⟩
  rw [← hsc] at hR hck
  have HSC := hid hsc
  clear hsc
  obtain ⟨hr1, hr2, hrr, ⟨_, ox3⟩, _, _, _, hbl⟩ := hR
  obtain ⟨wl, hwl⟩ : ∃ wl, wl = wc := ⟨_, rfl⟩
  rw [← hwl] at hr1 hr2 hrr ox3 hbl
  have zl := hrr.row.1
  go_wp2_with fail
  go_loopw [6] (fun i W => ∃ (n : Int) (sk : Int × Int) (outs : List En) (v : Value), i = .int .i64 n ∧ (outs.length ≤ 16 ∧ (sk.2 = 0 → outs.length + n.toNat ≤ 16)) ∧ getL getV e5.toNat l sc = (outs.map En.data ++ (getL getV n.toNat l sk).1, (getL getV n.toNat l sk).2) ∧ OwnEls enEl W wl.heap.size 29 v outs ∧ NewE enEl wl.heap.size outs ∧ Row W (w.heap.size + 1) [.int .i64 e1, .string (str e2), .slice A3 e3.length c3, .string (str e4), v, .int .i64 0, .slice none 0 0] ∧ Rr W (w.heap.size + 2) A c l sk ∧ Gro (w.heap.size + 2) (w.heap.size + 1) wl W) (fun i _ => (RowKit.intOf i).toNat)
  case atStart => exact ⟨e5, sc, [], .slice none 0 0, rfl, ⟨by simp, by simpa using hck⟩, by simp, OwnEls.nil _ _ _ _, NewE.nil _ _, by rw [← hwl]; exact hr2, by rw [← hwl]; exact hrr, by rw [← hwl]; exact Gro.refl _ _ _⟩
  case round =>
    clear hwl
    obtain ⟨n, sk, outs, v, rfl, ⟨hl1, hl2⟩, hgl, hE, hN, hr2k, hrrk, hGk⟩ := hrel
    have C2 := (hrrk.row.2 2 _ rfl).1
    have zk := hrrk.row.1
    go_upto_region 10 with fail
    go_cut [51] (fun s51 wx => s51 = .bool (decide (0 < n ∧ sk.2 = 0)) ∧ wx = wr)
    case first =>
      by_cases hn : 0 < n
      · have jn : decide (0 < n) = true := decide_eq_true hn
        go_wp2_with fail
        go_meet
        exact ⟨congrArg Value.bool (by by_cases hz : sk.2 = 0 <;> simp [hn, hz]), rfl⟩
      · have jn : decide (0 < n) = false := decide_eq_false hn
        go_wp2_with fail
        go_meet
        exact ⟨congrArg Value.bool (decide_eq_false (fun hh => by omega)).symm, rfl⟩
    case rest =>
    obtain ⟨rfl, rfl⟩ := hcut
    clear C2
    by_cases hgo : 0 < n ∧ sk.2 = 0
    · rw [decide_eq_true hgo]
      obtain ⟨hn, hz⟩ := hgo
      obtain ⟨m, rfl⟩ : ∃ m : Nat, n = (m : Int) + 1 := ⟨(n - 1).toNat, by omega⟩
      have hm16 := hl2 hz
      have hgs : getL getV ((m : Int) + 1).toNat l sk = ((getV l sk).1 :: (getL getV m l (getV l sk).2).1, (getL getV m l (getV l sk).2).2) := by
        rw [show ((m : Int) + 1).toNat = m + 1 by omega]; exact getL_ok getV m l sk hz
      rw [hgs] at hgl
      clear hgs
      have HGL := hid hgl
      clear hgl
      go_upto_region 12 with fail
      have bcur := (Below.refl wc.heap.size wc).drew
      have hr2k := hr2k.below bcur
      have hrrk := hrrk.below bcur
      have hE := hE.below bcur
      have GK := hGk.trans (Gro.of_below bcur)
      have zg := hGk.size
      have C4 := (hr2k.2 4 _ rfl).1
      refine wp_region_noPanic ?_
      refine wp_region_held_drew (S := (fun W => True)) (by kernel_rfl) ?_ (fun hHeld => ?_)
      · exact trivial
      refine wpAnyH_take (i := 0) (oi := ?oi1) (v := ?v1) ?hi1 (by kernel_rfl) (by kernel_rfl) (by kernel_rfl) ?hQ1 ?hy1 (by assumption) ?hrest1
      case hi1 => (simp only [List.getElem?_toArray, List.getElem?_cons_zero]; try rfl)
      case hQ1 => exact fun _ _ _ h => h
      case hy1 =>
        refine Or.inl ⟨by rfl, ?_⟩
        (intro wq hSw; (try dsimp only at hSw); go_simp; try with_reducible rfl)
      (try simp only [Act.put, List.setIfInBounds_toArray, List.set_cons_zero, List.set_cons_succ])
      refine wpAnyH_take (i := 2) (oi := ?oi2) (v := ?v2) ?hi2 (by kernel_rfl) (by kernel_rfl) (by kernel_rfl) ?hQ2 ?hy2 (by assumption) ?hrest2
      case hi2 => (simp only [List.getElem?_toArray, List.getElem?_cons_succ, List.getElem?_cons_zero]; try rfl)
      case hQ2 => exact fun _ _ _ h => h
      case hy2 =>
        refine Or.inl ⟨by rfl, ?_⟩
        (intro wq hSw; (try dsimp only at hSw); go_simp; try with_reducible rfl)
      (try simp only [Act.put, List.setIfInBounds_toArray, List.set_cons_zero, List.set_cons_succ])
      refine wpAnyH_ready (rs := [1, 3]) (by kernel_rfl) (by simp) ?_
      refine AllReadyH.cons (o := ?oi3) ?hi3 (fun K hK => ?hstep3) ?hmore3
      case hi3 => (simp only [List.getElem?_toArray, List.getElem?_cons_succ, List.getElem?_cons_zero]; try rfl)
      case hstep3 =>
        go_simp
        (skip)
        refine hK.out _ _ ?_ (fun hHeld => ?_)
        · exact trivial
        clear hK K
        (try simp only [Act.put, List.setIfInBounds_toArray, List.set_cons_zero, List.set_cons_succ])
        refine wpAnyH_ready (rs := [3]) (by kernel_rfl) (by simp) ?_
        refine AllReadyH.cons (o := ?oi4) ?hi4 (fun K hK => ?hstep4) AllReadyH.nil
        case hi4 => (simp only [List.getElem?_toArray, List.getElem?_cons_succ, List.getElem?_cons_zero]; try rfl)
        go_simp
        (refine (rvalue_any hrrk).mono ?_; rintro e wx ⟨x, rfl, hx, ox, h3, G3⟩; have q2 := hr2k.gro G3 (by omega); have qE := keep_els hE hN G3 (by omega); have q3 := hid hx; have C4 := (q2.2 4 _ rfl).1; have GK := GK.trans G3.lft; have oxn := (fun k hk => Nat.le_trans (show wl.heap.size ≤ wc.drew.heap.size from hGk.size) (own_lt ox (k := k) hk).1))
        refine hK.out _ _ ?_ (fun hHeld => ?_)
        · exact trivial
        clear hK K
        (try simp only [Act.put, List.setIfInBounds_toArray, List.set_cons_zero, List.set_cons_succ])
        refine wpAnyH_ready (rs := [4]) (by kernel_rfl) (by simp) ?_
        refine AllReadyH.cons (o := ?oi5) ?hi5 (fun K hK => ?hstep5) AllReadyH.nil
        case hi5 => (simp only [List.getElem?_toArray, List.getElem?_cons_succ, List.getElem?_cons_zero]; try rfl)
        go_simp
        ((first | refine newvar_Kd ?_ | refine newvar_K ?_); intro wz hbx nv nf nz; have n0 := nv 0 _ rfl; have n1 := nv 1 _ rfl; have n2 := nv 2 _ rfl; have q2 := q2.below hbx; have qE := qE.below hbx; have ox := own_below ox hbx; have h3 := h3.below hbx; have GK := GK.trans (Gro.of_below hbx); have C4 := (q2.2 4 _ rfl).1)
        refine hK.out _ _ ?_ (fun hHeld => ?_)
        · exact trivial
        clear hK K
        (try simp only [Act.put, List.setIfInBounds_toArray, List.set_cons_zero, List.set_cons_succ])
        refine wpAnyH_ready (rs := [5]) (by kernel_rfl) (by simp) ?_
        refine AllReadyH.cons (o := ?oi6) ?hi6 (fun K hK => ?hstep6) AllReadyH.nil
        case hi6 => (simp only [List.getElem?_toArray, List.getElem?_cons_succ, List.getElem?_cons_zero]; try rfl)
        (have hoff : Off enEl wz v [x] := en_off ox hE.1 (Nat.le_refl _); refine oper_app2 rfl (.tmp 55) (.tmp 58) 23 rfl wl.heap.size 29 Try.underlying23 infoV rfl (by decide) v outs.length (outs.flatMap enEl.cells) rfl qE.1 (some ⟨_, 0, none⟩) 1 1 [.int .i64 x.c, .int .i64 x.r, .slice x.A x.op.length x.cap] rfl rfl (rd3 n0 n1 n2) (by intro u hu; simp at hu; rcases hu with rfl | rfl | rfl <;> rfl) (by omega) (by omega) (by have := GK.size; omega) ?_; intro v5 w5 own5 hg5 hat5; have pE := OwnEls.app (ys := [x]) qE.2 hoff own5 hg5 hat5; obtain ⟨A5, c5, rfl, _⟩ := own_shape own5; have p2 := q2.grown hg5 (fun e => by have := (own_lt qE.1 e).1; omega); have prr := h3.grown hg5 (fun e => by have := (own_lt qE.1 e).1; omega) (fun hl ad ha e => by have h1 := (own_lt qE.1 e).1; have h2 := hAl hl ad ha; omega); have pG := GK.grown hg5 (fun k hk => (own_lt qE.1 hk).1); have C4 := (p2.2 4 _ rfl).1; have F4 := (p2.2 4 _ rfl).2)
        refine hK.out _ _ ?_ (fun hHeld => ?_)
        · exact trivial
        clear hK K
        (try simp only [Act.put, List.setIfInBounds_toArray, List.set_cons_zero, List.set_cons_succ])
        refine wpAnyH_take (i := 6) (oi := ?oi7) (v := ?v7) ?hi7 (by kernel_rfl) (by kernel_rfl) (by kernel_rfl) ?hQ7 ?hy7 (by assumption) ?hrest7
        case hi7 => (simp only [List.getElem?_toArray, List.getElem?_cons_succ, List.getElem?_cons_zero]; try rfl)
        case hQ7 => exact fun _ _ _ h => h
        case hy7 =>
          refine Or.inl ⟨by rfl, ?_⟩
          (intro wq hSw; (try dsimp only at hSw); go_simp; try with_reducible rfl)
        (try simp only [Act.put, List.setIfInBounds_toArray, List.set_cons_zero, List.set_cons_succ])
        refine wpAnyH_ready (rs := [7]) (by kernel_rfl) (by simp) ?_
        refine AllReadyH.cons (o := ?oi8) ?hi8 (fun K hK => ?hstep8) AllReadyH.nil
        case hi8 => (simp only [List.getElem?_toArray, List.getElem?_cons_succ, List.getElem?_cons_zero]; try rfl)
        go_simp
        (skip)
        refine hK.out _ _ ?_ (fun hHeld => ?_)
        · exact trivial
        clear hK K
        (try simp only [Act.put, List.setIfInBounds_toArray, List.set_cons_zero, List.set_cons_succ])
        refine wpAnyH_done (by kernel_rfl) ?_ _
        refine NoPanic.normal ?_
        (have gs := Gro.set (w.heap.size + 1) (w.heap.size + 1) 4 w5 (.slice A5 (outs.length + 1) c5); have r2n := p2.set 4 (by simp) (.slice A5 (outs.length + 1) c5); simp only [List.set_cons_zero, List.set_cons_succ] at r2n; have rrn := prr.new' gs (by omega) (fun hl ad ha => by have := hAl hl ad ha; omega); have hNn := hN.app (en_new ox (show wl.heap.size ≤ wc.drew.heap.size from zg)); have En' := keep_els pE hNn gs (by omega); have Gn := pG.trans gs.rgt; clear C4 F4; generalize World.setCell _ _ _ = w6 at r2n rrn En' Gn ⊢; (go_wp2_with fail); go_roundw; (case rel => exact ⟨m, (getV l sk).2, outs ++ [x], _, rfl, ⟨by rw [List.length_append]; simp; omega, fun _ => by rw [List.length_append]; simp; omega⟩, by rw [HGL.out, List.map_append, List.append_assoc, Int.toNat_natCast, ← q3.out]; rfl, En', hNn, r2n, rrn, Gn⟩); (case measure => simp [RowKit.intOf]))
      refine AllReadyH.cons (o := ?oi9) ?hi9 (fun K hK => ?hstep9) ?hmore9
      case hi9 => (simp only [List.getElem?_toArray, List.getElem?_cons_succ, List.getElem?_cons_zero]; try rfl)
      case hstep9 =>
        go_simp
        (refine (rvalue_any hrrk).mono ?_; rintro e wx ⟨x, rfl, hx, ox, h3, G3⟩; have q2 := hr2k.gro G3 (by omega); have qE := keep_els hE hN G3 (by omega); have q3 := hid hx; have C4 := (q2.2 4 _ rfl).1; have GK := GK.trans G3.lft; have oxn := (fun k hk => Nat.le_trans (show wl.heap.size ≤ wc.drew.heap.size from hGk.size) (own_lt ox (k := k) hk).1))
        refine hK.out _ _ ?_ (fun hHeld => ?_)
        · exact trivial
        clear hK K
        (try simp only [Act.put, List.setIfInBounds_toArray, List.set_cons_zero, List.set_cons_succ])
        refine wpAnyH_ready (rs := [1, 4]) (by kernel_rfl) (by simp) ?_
        refine AllReadyH.cons (o := ?oi10) ?hi10 (fun K hK => ?hstep10) ?hmore10
        case hi10 => (simp only [List.getElem?_toArray, List.getElem?_cons_succ, List.getElem?_cons_zero]; try rfl)
        case hstep10 =>
          go_simp
          (skip)
          refine hK.out _ _ ?_ (fun hHeld => ?_)
          · exact trivial
          clear hK K
          (try simp only [Act.put, List.setIfInBounds_toArray, List.set_cons_zero, List.set_cons_succ])
          refine wpAnyH_ready (rs := [4]) (by kernel_rfl) (by simp) ?_
          refine AllReadyH.cons (o := ?oi11) ?hi11 (fun K hK => ?hstep11) AllReadyH.nil
          case hi11 => (simp only [List.getElem?_toArray, List.getElem?_cons_succ, List.getElem?_cons_zero]; try rfl)
          go_simp
          ((first | refine newvar_Kd ?_ | refine newvar_K ?_); intro wz hbx nv nf nz; have n0 := nv 0 _ rfl; have n1 := nv 1 _ rfl; have n2 := nv 2 _ rfl; have q2 := q2.below hbx; have qE := qE.below hbx; have ox := own_below ox hbx; have h3 := h3.below hbx; have GK := GK.trans (Gro.of_below hbx); have C4 := (q2.2 4 _ rfl).1)
          refine hK.out _ _ ?_ (fun hHeld => ?_)
          · exact trivial
          clear hK K
          (try simp only [Act.put, List.setIfInBounds_toArray, List.set_cons_zero, List.set_cons_succ])
          refine wpAnyH_ready (rs := [5]) (by kernel_rfl) (by simp) ?_
          refine AllReadyH.cons (o := ?oi12) ?hi12 (fun K hK => ?hstep12) AllReadyH.nil
          case hi12 => (simp only [List.getElem?_toArray, List.getElem?_cons_succ, List.getElem?_cons_zero]; try rfl)
          (have hoff : Off enEl wz v [x] := en_off ox hE.1 (Nat.le_refl _); refine oper_app2 rfl (.tmp 55) (.tmp 58) 23 rfl wl.heap.size 29 Try.underlying23 infoV rfl (by decide) v outs.length (outs.flatMap enEl.cells) rfl qE.1 (some ⟨_, 0, none⟩) 1 1 [.int .i64 x.c, .int .i64 x.r, .slice x.A x.op.length x.cap] rfl rfl (rd3 n0 n1 n2) (by intro u hu; simp at hu; rcases hu with rfl | rfl | rfl <;> rfl) (by omega) (by omega) (by have := GK.size; omega) ?_; intro v5 w5 own5 hg5 hat5; have pE := OwnEls.app (ys := [x]) qE.2 hoff own5 hg5 hat5; obtain ⟨A5, c5, rfl, _⟩ := own_shape own5; have p2 := q2.grown hg5 (fun e => by have := (own_lt qE.1 e).1; omega); have prr := h3.grown hg5 (fun e => by have := (own_lt qE.1 e).1; omega) (fun hl ad ha e => by have h1 := (own_lt qE.1 e).1; have h2 := hAl hl ad ha; omega); have pG := GK.grown hg5 (fun k hk => (own_lt qE.1 hk).1); have C4 := (p2.2 4 _ rfl).1; have F4 := (p2.2 4 _ rfl).2)
          refine hK.out _ _ ?_ (fun hHeld => ?_)
          · exact trivial
          clear hK K
          (try simp only [Act.put, List.setIfInBounds_toArray, List.set_cons_zero, List.set_cons_succ])
          refine wpAnyH_take (i := 6) (oi := ?oi13) (v := ?v13) ?hi13 (by kernel_rfl) (by kernel_rfl) (by kernel_rfl) ?hQ13 ?hy13 (by assumption) ?hrest13
          case hi13 => (simp only [List.getElem?_toArray, List.getElem?_cons_succ, List.getElem?_cons_zero]; try rfl)
          case hQ13 => exact fun _ _ _ h => h
          case hy13 =>
            refine Or.inl ⟨by rfl, ?_⟩
            (intro wq hSw; (try dsimp only at hSw); go_simp; try with_reducible rfl)
          (try simp only [Act.put, List.setIfInBounds_toArray, List.set_cons_zero, List.set_cons_succ])
          refine wpAnyH_ready (rs := [7]) (by kernel_rfl) (by simp) ?_
          refine AllReadyH.cons (o := ?oi14) ?hi14 (fun K hK => ?hstep14) AllReadyH.nil
          case hi14 => (simp only [List.getElem?_toArray, List.getElem?_cons_succ, List.getElem?_cons_zero]; try rfl)
          go_simp
          (skip)
          refine hK.out _ _ ?_ (fun hHeld => ?_)
          · exact trivial
          clear hK K
          (try simp only [Act.put, List.setIfInBounds_toArray, List.set_cons_zero, List.set_cons_succ])
          refine wpAnyH_done (by kernel_rfl) ?_ _
          refine NoPanic.normal ?_
          (have gs := Gro.set (w.heap.size + 1) (w.heap.size + 1) 4 w5 (.slice A5 (outs.length + 1) c5); have r2n := p2.set 4 (by simp) (.slice A5 (outs.length + 1) c5); simp only [List.set_cons_zero, List.set_cons_succ] at r2n; have rrn := prr.new' gs (by omega) (fun hl ad ha => by have := hAl hl ad ha; omega); have hNn := hN.app (en_new ox (show wl.heap.size ≤ wc.drew.heap.size from zg)); have En' := keep_els pE hNn gs (by omega); have Gn := pG.trans gs.rgt; clear C4 F4; generalize World.setCell _ _ _ = w6 at r2n rrn En' Gn ⊢; (go_wp2_with fail); go_roundw; (case rel => exact ⟨m, (getV l sk).2, outs ++ [x], _, rfl, ⟨by rw [List.length_append]; simp; omega, fun _ => by rw [List.length_append]; simp; omega⟩, by rw [HGL.out, List.map_append, List.append_assoc, Int.toNat_natCast, ← q3.out]; rfl, En', hNn, r2n, rrn, Gn⟩); (case measure => simp [RowKit.intOf]))
        refine AllReadyH.cons (o := ?oi15) ?hi15 (fun K hK => ?hstep15) ?hmore15
        case hi15 => (simp only [List.getElem?_toArray, List.getElem?_cons_succ, List.getElem?_cons_zero]; try rfl)
        case hstep15 =>
          go_simp
          ((first | refine newvar_Kd ?_ | refine newvar_K ?_); intro wz hbx nv nf nz; have n0 := nv 0 _ rfl; have n1 := nv 1 _ rfl; have n2 := nv 2 _ rfl; have q2 := q2.below hbx; have qE := qE.below hbx; have ox := own_below ox hbx; have h3 := h3.below hbx; have GK := GK.trans (Gro.of_below hbx); have C4 := (q2.2 4 _ rfl).1)
          refine hK.out _ _ ?_ (fun hHeld => ?_)
          · exact trivial
          clear hK K
          (try simp only [Act.put, List.setIfInBounds_toArray, List.set_cons_zero, List.set_cons_succ])
          refine wpAnyH_ready (rs := [1]) (by kernel_rfl) (by simp) ?_
          refine AllReadyH.cons (o := ?oi16) ?hi16 (fun K hK => ?hstep16) AllReadyH.nil
          case hi16 => (simp only [List.getElem?_toArray, List.getElem?_cons_succ, List.getElem?_cons_zero]; try rfl)
          go_simp
          (skip)
          refine hK.out _ _ ?_ (fun hHeld => ?_)
          · exact trivial
          clear hK K
          (try simp only [Act.put, List.setIfInBounds_toArray, List.set_cons_zero, List.set_cons_succ])
          refine wpAnyH_ready (rs := [5]) (by kernel_rfl) (by simp) ?_
          refine AllReadyH.cons (o := ?oi17) ?hi17 (fun K hK => ?hstep17) AllReadyH.nil
          case hi17 => (simp only [List.getElem?_toArray, List.getElem?_cons_succ, List.getElem?_cons_zero]; try rfl)
          (have hoff : Off enEl wz v [x] := en_off ox hE.1 (Nat.le_refl _); refine oper_app2 rfl (.tmp 55) (.tmp 58) 23 rfl wl.heap.size 29 Try.underlying23 infoV rfl (by decide) v outs.length (outs.flatMap enEl.cells) rfl qE.1 (some ⟨_, 0, none⟩) 1 1 [.int .i64 x.c, .int .i64 x.r, .slice x.A x.op.length x.cap] rfl rfl (rd3 n0 n1 n2) (by intro u hu; simp at hu; rcases hu with rfl | rfl | rfl <;> rfl) (by omega) (by omega) (by have := GK.size; omega) ?_; intro v5 w5 own5 hg5 hat5; have pE := OwnEls.app (ys := [x]) qE.2 hoff own5 hg5 hat5; obtain ⟨A5, c5, rfl, _⟩ := own_shape own5; have p2 := q2.grown hg5 (fun e => by have := (own_lt qE.1 e).1; omega); have prr := h3.grown hg5 (fun e => by have := (own_lt qE.1 e).1; omega) (fun hl ad ha e => by have h1 := (own_lt qE.1 e).1; have h2 := hAl hl ad ha; omega); have pG := GK.grown hg5 (fun k hk => (own_lt qE.1 hk).1); have C4 := (p2.2 4 _ rfl).1; have F4 := (p2.2 4 _ rfl).2)
          refine hK.out _ _ ?_ (fun hHeld => ?_)
          · exact trivial
          clear hK K
          (try simp only [Act.put, List.setIfInBounds_toArray, List.set_cons_zero, List.set_cons_succ])
          refine wpAnyH_take (i := 6) (oi := ?oi18) (v := ?v18) ?hi18 (by kernel_rfl) (by kernel_rfl) (by kernel_rfl) ?hQ18 ?hy18 (by assumption) ?hrest18
          case hi18 => (simp only [List.getElem?_toArray, List.getElem?_cons_succ, List.getElem?_cons_zero]; try rfl)
          case hQ18 => exact fun _ _ _ h => h
          case hy18 =>
            refine Or.inl ⟨by rfl, ?_⟩
            (intro wq hSw; (try dsimp only at hSw); go_simp; try with_reducible rfl)
          (try simp only [Act.put, List.setIfInBounds_toArray, List.set_cons_zero, List.set_cons_succ])
          refine wpAnyH_ready (rs := [7]) (by kernel_rfl) (by simp) ?_
          refine AllReadyH.cons (o := ?oi19) ?hi19 (fun K hK => ?hstep19) AllReadyH.nil
          case hi19 => (simp only [List.getElem?_toArray, List.getElem?_cons_succ, List.getElem?_cons_zero]; try rfl)
          go_simp
          (skip)
          refine hK.out _ _ ?_ (fun hHeld => ?_)
          · exact trivial
          clear hK K
          (try simp only [Act.put, List.setIfInBounds_toArray, List.set_cons_zero, List.set_cons_succ])
          refine wpAnyH_done (by kernel_rfl) ?_ _
          refine NoPanic.normal ?_
          (have gs := Gro.set (w.heap.size + 1) (w.heap.size + 1) 4 w5 (.slice A5 (outs.length + 1) c5); have r2n := p2.set 4 (by simp) (.slice A5 (outs.length + 1) c5); simp only [List.set_cons_zero, List.set_cons_succ] at r2n; have rrn := prr.new' gs (by omega) (fun hl ad ha => by have := hAl hl ad ha; omega); have hNn := hN.app (en_new ox (show wl.heap.size ≤ wc.drew.heap.size from zg)); have En' := keep_els pE hNn gs (by omega); have Gn := pG.trans gs.rgt; clear C4 F4; generalize World.setCell _ _ _ = w6 at r2n rrn En' Gn ⊢; (go_wp2_with fail); go_roundw; (case rel => exact ⟨m, (getV l sk).2, outs ++ [x], _, rfl, ⟨by rw [List.length_append]; simp; omega, fun _ => by rw [List.length_append]; simp; omega⟩, by rw [HGL.out, List.map_append, List.append_assoc, Int.toNat_natCast, ← q3.out]; rfl, En', hNn, r2n, rrn, Gn⟩); (case measure => simp [RowKit.intOf]))
        exact AllReadyH.nil
      exact AllReadyH.nil
    · rw [decide_eq_false hgo]
      have HEX : Hid (getL getV e5.toNat l sc = (outs.map En.data, sk)) := by
        refine hid ?_
        rw [hgl]
        by_cases hz : sk.2 = 0
        · rw [show n.toNat = 0 by omega]; simp [getL]
        · rw [getL_err getV _ l sk hz]; simp
      clear hgl hgo
      have hR : Rg w wc w.heap.size (w.heap.size + 1) (w.heap.size + 2) [.int .i64 0, .string ⟨#[]⟩, .slice none 0 0, .string ⟨#[]⟩, .slice none 0 0, .int .i64 0, .slice none 0 0] [.int .i64 e1, .string (str e2), .slice A3 e3.length c3, .string (str e4), v, .int .i64 0, .slice none 0 0] A c l sk (fun W => W.ownsRow (w.heap.size + 2 + 1) 5 1 (.slice A3 e3.length c3) e3.length (e3.map byt) ∧ OwnEls enEl W wl.heap.size 29 v outs) :=
        ⟨hr1.gro2 hGk (by omega) (by omega), hr2k, hrrk, ⟨hGk.own2 ox3 (by omega) (by omega), hE⟩, fun k W1 W2 hk hG _ hx => ⟨keep_own hk hG hx.1, keep_els hx.2 hN hG (by omega)⟩, by omega, hAl, hbl.trans (hGk.below (by omega) (by omega) hbl.size)⟩
      clear hr2k hrrk hE
      -- number 6
      go_wp2_with fail
      refine (nextnum_any hR.rr).mono ?_
      rintro e w3 ⟨rfl, h3, G3⟩
      replace hR := hR.next h3 G3
      obtain ⟨e6, s6, he6⟩ : ∃ e s, nx numR 0 l sk = (e, s) := ⟨_, _, rfl⟩
      rw [he6] at hR ⊢
      have C := hR.c2 5 _ rfl
      have F := hR.f2 5 _ rfl
      replace hR := hR.set 5 (by simp) (.int .i64 e6)
      go_upto_region 14 with fail
      clear C F h3 G3
      generalize World.setCell _ _ _ = w4 at hR ⊢
      simp only [List.set_cons_zero, List.set_cons_succ] at hR
      -- text 7
      go_wp2_with fail
      refine (nexttext_any hR.rr).mono ?_
      rintro e w3 ⟨v7, rfl, o3, h3, G3⟩
      have z3 := hR.rr.row.1
      replace hR := hR.next h3 G3
      obtain ⟨e7, s7, he7⟩ : ∃ e s, nx bytesR [] l s6 = (e, s) := ⟨_, _, rfl⟩
      rw [he7] at hR o3
      obtain ⟨A7, c7, rfl, hc7, hm7, _⟩ := own_shape o3
      replace hR := hR.more (own_mono o3 z3) (fun k W1 W2 hk hG _ hx => keep_own hk hG hx)
      have C := hR.c2 6 _ rfl
      have F := hR.f2 6 _ rfl
      replace hR := hR.set 6 (by simp) (.slice A7 e7.length c7)
      go_upto_region 15 with fail
      clear C F h3 G3 o3 z3
      generalize World.setCell _ _ _ = w4 at hR ⊢
      simp only [List.set_cons_zero, List.set_cons_succ] at hR
      obtain ⟨⟨ox3', hE⟩, ox7⟩ := hR.x
      obtain ⟨Av, cv, rfl, hcv, hmv, hEl⟩ := hE.rd
      have C0 := hR.c2 0 _ rfl
      have C1 := hR.c2 1 _ rfl
      have C2 := hR.c2 2 _ rfl
      have C3 := hR.c2 3 _ rfl
      have C4 := hR.c2 4 _ rfl
      have C5 := hR.c2 5 _ rfl
      have C6 := hR.c2 6 _ rfl
      have hO : OaOwn w4 ⟨e1, e2, A3, c3, e3, e4, Av, cv, outs, e6, A7, c7, e7⟩ := ⟨⟨own_rd ox3', hEl, own_rd ox7, by show outs.length ≤ maxLen; unfold maxLen; omega⟩, ⟨hc3, hm3⟩, ⟨hc7, hm7⟩⟩
      obtain ⟨o, ho⟩ : ∃ o : Oa, o = ⟨e1, e2, A3, c3, e3, e4, Av, cv, outs, e6, A7, c7, e7⟩ := ⟨_, rfl⟩
      replace hO : OaOwn w4 o := ho ▸ hO
      have hRT := right_any o hO.rd
      have hOd : o.data = (e1, e2, e3, e4, outs.map En.data, e6, e7) := by rw [ho]; rfl
      have hOv : o.val = .agg #[.int .i64 e1, .string (str e2), .slice A3 e3.length c3, .string (str e4), .slice Av outs.length cv, .int .i64 e6, .slice A7 e7.length c7] := by rw [ho]; rfl
      replace ho := hid ho
      replace hOv := hid hOv
      replace hOd := hid hOd
      rw [hOv.out] at hRT
      go_wp2_with fail
      refine hRT.mono ?_
      rintro e w5 ⟨rfl, hb5⟩
      replace hR := hR.on hb5
      have hO5 := hO.below hb5
      clear C0 C1 C2 C3 C4 C5 C6 hRT hO
      go_wp2_with fail
      refine (end_any hR.rr (rightO o.data)).mono ?_
      rintro e w6 ⟨rfl, hb6⟩
      replace hR := hR.on hb6
      have hO6 := hO5.below hb6
      clear hb5 hb6 hO5
      have eG : getO l (0, 0) = (o.data, s7) := by
        rw [hOd.out]
        unfold getO
        have q := HEX.out
        have hc := HSC.out
        simp only [sq, he1, he2, he3, he4, cnt, he5, ← hc, q, he6, he7]
      have hW := whole_end rightO zeroO getO l eG
      have hrd : readO l = whole rightO 151 zeroO getO l := rfl
      rw [hW] at hrd
      clear hW eG
      generalize endR l.length s7 (rightO o.data) = er at hrd ⊢
      have C0 := hR.c2 0 _ rfl
      have C1 := hR.c2 1 _ rfl
      have C2 := hR.c2 2 _ rfl
      have C3 := hR.c2 3 _ rfl
      have C4 := hR.c2 4 _ rfl
      have C5 := hR.c2 5 _ rfl
      have C6 := hR.c2 6 _ rfl
      by_cases hz : er = 0
      · have jz : (er != 0) = false := by simp [hz]
        have D0 := hR.c1 0 _ rfl
        have F0 := hR.f1 0 _ rfl
        have D1 := hR.c1 1 _ rfl
        have F1 := hR.f1 1 _ rfl
        have D2 := hR.c1 2 _ rfl
        have F2 := hR.f1 2 _ rfl
        have D3 := hR.c1 3 _ rfl
        have F3 := hR.f1 3 _ rfl
        have D4 := hR.c1 4 _ rfl
        have F4 := hR.f1 4 _ rfl
        have D5 := hR.c1 5 _ rfl
        have F5 := hR.f1 5 _ rfl
        have D6 := hR.c1 6 _ rfl
        have F6 := hR.f1 6 _ rfl
        have hF := (((((((hR.set1 0 (by simp) (.int .i64 e1)).set1 1 (by simp) (.string (str e2))).set1 2 (by simp) (.slice A3 e3.length c3)).set1 3 (by simp) (.string (str e4))).set1 4 (by simp) (.slice Av outs.length cv)).set1 5 (by simp) (.int .i64 e6)).set1 6 (by simp) (.slice A7 e7.length c7))
        simp only [List.set_cons_zero, List.set_cons_succ] at hF
        go_wp2_with fail
        clear C0 C1 C2 C3 C4 C5 C6 D0 F0 D1 F1 D2 F2 D3 F3 D4 F4 D5 F5 D6 F6
        generalize World.setCell _ _ _ = w7 at hF ⊢
        obtain ⟨⟨ox3, hE⟩, ox7⟩ := hF.x
        refine bodyPost_ret (results_cell2 (k := 2) (k2 := 3) (t := 25) Try.results15 rfl rfl hF.r1 Try.underlying25 rfl (by kernel_rfl)) rfl ?_
        rw [if_pos hz] at hrd
        refine ⟨o, by rw [hrd, hz, hOv.out]; rfl, by rw [hrd], ?_, hF.below⟩
        rw [ho.out]
        exact ⟨⟨own_rd ox3, ⟨own_rd hE.1, fun a ha p hp => (hE.2 a ha p hp).1⟩, own_rd ox7, by show outs.length ≤ maxLen; unfold maxLen; omega⟩, ⟨hc3, hm3⟩, ⟨hc7, hm7⟩⟩
      · have jz : (er != 0) = true := by simp [hz]
        have D0 := hR.c1 0 _ rfl
        have F0 := hR.f1 0 _ rfl
        have D1 := hR.c1 1 _ rfl
        have F1 := hR.f1 1 _ rfl
        have D2 := hR.c1 2 _ rfl
        have F2 := hR.f1 2 _ rfl
        have D3 := hR.c1 3 _ rfl
        have F3 := hR.f1 3 _ rfl
        have D4 := hR.c1 4 _ rfl
        have F4 := hR.f1 4 _ rfl
        have D5 := hR.c1 5 _ rfl
        have F5 := hR.f1 5 _ rfl
        have D6 := hR.c1 6 _ rfl
        have F6 := hR.f1 6 _ rfl
        have hF := (((((((hR.set1 0 (by simp) (.int .i64 0)).set1 1 (by simp) (.string ⟨#[]⟩)).set1 2 (by simp) (.slice none 0 0)).set1 3 (by simp) (.string ⟨#[]⟩)).set1 4 (by simp) (.slice none 0 0)).set1 5 (by simp) (.int .i64 0)).set1 6 (by simp) (.slice none 0 0))
        simp only [List.set_cons_zero, List.set_cons_succ] at hF
        go_wp2_with fail
        clear C0 C1 C2 C3 C4 C5 C6 D0 F0 D1 F1 D2 F2 D3 F3 D4 F4 D5 F5 D6 F6
        generalize World.setCell _ _ _ = w7 at hF ⊢
        refine bodyPost_ret (results_cell2 (k := 2) (k2 := 3) (t := 25) Try.results15 rfl rfl hF.r1 Try.underlying25 rfl (by kernel_rfl)) rfl ?_
        rw [if_neg hz] at hrd
        exact ⟨zeroOa, by rw [hrd]; rfl, by rw [hrd]; rfl, zeroOa_own _, hF.below⟩
end Go.Proofs.Ytoceipdkmafagaa