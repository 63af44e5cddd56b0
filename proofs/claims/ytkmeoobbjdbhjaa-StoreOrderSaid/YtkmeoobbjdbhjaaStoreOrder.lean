/-
  The walk of the law StoreOrder.
-/
import Derived.Test.YtkmeoobbjdbhjaaStoreL
namespace Go.Proofs.Ytkmeoobbjdbhjaa
open Go.RowKit Go.Cov Go.Lib
theorem put_split {L : PL} (hr : rightP L = true) (m v : List UInt8) : ∃ (M : PL) (e : Int), putR L m v = (M, e) ∧ M.length ≤ 2048 ∧ ((e == 0) = true ∧ e = 0 ∧ M = insP L m v ∧ rightP M = true ∨ (e != 0) = true) := by
  unfold putR
  by_cases hb : 64 < m.length ∨ 256 < v.length
  · rw [if_pos hb]; exact ⟨_, _, rfl, by simp, .inr rfl⟩
  · rw [if_neg hb]
    by_cases hs : 2048 < sizeP (insP L m v)
    · rw [if_pos hs]; exact ⟨_, _, rfl, by simp, .inr rfl⟩
    · rw [if_neg hs]
      refine ⟨_, _, rfl, ?_, .inl ⟨rfl, rfl, rfl, put_right hr hb hs⟩⟩
      unfold sizeP at hs
      omega
theorem put_comm {L : PL} (hr : rightP L = true) {a b x y : List UInt8} (hn : a ≠ b) {M N : PL} (h1 : putR L a x = (M, 0)) (h2 : putR L b y = (N, 0)) : putR M b y = putR N a x := by
  have hU := (okay_iff.1 hr).1
  have c1 : ¬ (64 < a.length ∨ 256 < x.length) ∧ M = insP L a x := by
    unfold putR at h1
    by_cases hb : 64 < a.length ∨ 256 < x.length
    · rw [if_pos hb] at h1; injection h1 with _ h; cases h
    · rw [if_neg hb] at h1
      refine ⟨hb, ?_⟩
      by_cases hs : 2048 < sizeP (insP L a x)
      · rw [if_pos hs] at h1; injection h1 with _ h; cases h
      · rw [if_neg hs] at h1; injection h1 with h _; exact h.symm
  have c2 : ¬ (64 < b.length ∨ 256 < y.length) ∧ N = insP L b y := by
    unfold putR at h2
    by_cases hb : 64 < b.length ∨ 256 < y.length
    · rw [if_pos hb] at h2; injection h2 with _ h; cases h
    · rw [if_neg hb] at h2
      refine ⟨hb, ?_⟩
      by_cases hs : 2048 < sizeP (insP L b y)
      · rw [if_pos hs] at h2; injection h2 with _ h; cases h
      · rw [if_neg hs] at h2; injection h2 with h _; exact h.symm
  unfold putR
  rw [if_neg c1.1, if_neg c2.1, c1.2, c2.2, ins_comm hU hn]
set_option maxRecDepth 100000 in
set_option maxHeartbeats 3200000 in
theorem order_law {A B D X Y : Option Addr} {c d f g q : Nat} {xs : List Pr} {L : PL} {a b x y : List UInt8} {w : World} (h : St w A c xs L) (hz : xs.length ≤ 2932031007403) (hB : Rd w B (a.map byt)) (hm : a.length ≤ 140737488351236) (hD : Rd w D (b.map byt)) (hv : b.length ≤ 140737488351236)
    (hX : Rd w X (x.map byt)) (hx : x.length ≤ 140737488351236) (hY : Rd w Y (y.map byt)) (hy : y.length ≤ 140737488351236) :
    Calls Try.prog 3 #[.slice A xs.length c, .slice B a.length d, .slice D b.length f, .slice X x.length g, .slice Y y.length q] w fun e w' => e = .returned (.bool true) ∧ Below w.heap.size w w' := by
  have KR := hid (fun W (hW : Below w.heap.size w W) => right_st (h.below hW) hz)
  cases hr : rightP L with
  | false =>
    rw [hr] at KR
    go_enter Try.func3, Try.ntmps3
    go_wp2_with fail
    refine (head_any w).mono ?_
    rintro e w1 ⟨rfl, hb1⟩
    go_wp2_with fail
    refine (KR.out _ hb1).mono ?_
    rintro e w2 ⟨rfl, hb2⟩
    go_wp2_with fail
    go_ret
    exact ⟨rfl, below_step hb1 hb2⟩
  | true =>
    rw [hr] at KR
    have hk := okay_iff.1 hr
    have cva := hid (fun W (hW : Below w.heap.size w W) => conv_bs (P := Try.prog) Try.underlying23 Try.underlying5 Try.underlying9 (hB.below hW) d)
    have cvb := hid (fun W (hW : Below w.heap.size w W) => conv_bs (P := Try.prog) Try.underlying23 Try.underlying5 Try.underlying9 (hD.below hW) f)
    have sb := str_beq a b
    by_cases hab : a = b
    · rw [decide_eq_true hab] at sb
      clear hab hr
      go_enter Try.func3, Try.ntmps3
      go_wp2_with fail
      refine (head_any w).mono ?_
      rintro e w1 ⟨rfl, hb1⟩
      go_wp2_with fail
      refine (KR.out _ hb1).mono ?_
      rintro e w2 ⟨rfl, hb2⟩
      have b2 := below_step hb1 hb2
      have cv1 := cva.out _ b2
      have cv2 := cvb.out _ b2
      go_wp2_with fail
      go_ret
      exact ⟨rfl, b2⟩
    · rw [decide_eq_false hab] at sb
      have kp1 := fun W (hW : Below w.heap.size w W) => put_st (d := d) (f := g) (h.below hW) hk (hB.below hW) hm (hX.below hW) hx
      have kp2 := fun W (hW : Below w.heap.size w W) => put_st (d := f) (f := q) (h.below hW) hk (hD.below hW) hv (hY.below hW) hy
      obtain ⟨M, e1, hM, hMl, h1⟩ := put_split hr a x
      obtain ⟨N, e2, hN, hNl, h2⟩ := put_split hr b y
      rw [hM] at kp1
      rw [hN] at kp2
      have KP1 := hid kp1
      have KP2 := hid kp2
      clear kp1 kp2
      rcases h1 with ⟨h1, rfl, hM1, hMr⟩ | h1
      · rcases h2 with ⟨h2, rfl, hN1, hNr⟩ | h2
        · have hcom := put_comm hr hab hM hN
          have kp3 := fun W C p (ys : List Pr) (hs : St W C p ys M) (hW : Below w.heap.size w W) => put_st (d := f) (f := q) hs (okay_iff.1 hMr) (hD.below hW) hv (hY.below hW) hy
          have kp4 := fun W C p (ys : List Pr) (hs : St W C p ys N) (hW : Below w.heap.size w W) => put_st (d := d) (f := g) hs (okay_iff.1 hNr) (hB.below hW) hm (hX.below hW) hx
          obtain ⟨P, e3, hP, hPl, _⟩ := put_split hMr b y
          rw [← hcom, hP] at kp4
          rw [hP] at kp3
          have KP3 := hid kp3
          have KP4 := hid kp4
          have KS := hid (fun W C p C2 p2 (ys zs : List Pr) (hs : St W C p ys P) (hs2 : St W C2 p2 zs P) => (same_st hs hs2 (by have := hs.len; omega)).mono (fun e w' h => (show e = .returned (.bool true) ∧ Below W.heap.size W w' from ⟨h.1.trans (congrArg (fun b => Ending.returned (.bool b)) (decide_eq_true rfl)), h.2⟩)))
          clear hcom hP hM hN hM1 hN1 hMr hNr kp3 kp4 hab hr hPl hMl hNl h1 h2
          go_enter Try.func3, Try.ntmps3
          go_wp2_with fail
          refine (head_any w).mono ?_
          rintro e w1 ⟨rfl, hb1⟩
          go_wp2_with fail
          refine (KR.out _ hb1).mono ?_
          rintro e w2 ⟨rfl, hb2⟩
          have b2 := below_step hb1 hb2
          have cv1 := cva.out _ b2
          have cv2 := cvb.out _ b2
          go_wp2_with fail
          refine (KP1.out _ b2).mono ?_
          rintro e w3 ⟨C3, q3, ys, rfl, hs3, hb3⟩
          have b3 := below_step b2 hb3
          go_wp2_with fail
          refine (KP2.out _ b3).mono ?_
          rintro e w4 ⟨C4, q4, zs, rfl, hs4, hb4⟩
          have b4 := below_step b3 hb4
          clear cv1 cv2
          go_wp2_with fail
          refine (KP3.out _ _ _ _ (hs3.below hb4) b4).mono ?_
          rintro e w5 ⟨C5, q5, ps, rfl, hs5, hb5⟩
          have b5 := below_step b4 hb5
          go_wp2_with fail
          refine (KP4.out _ _ _ _ (hs4.below hb5) b5).mono ?_
          rintro e w6 ⟨C6, q6, qs, rfl, hs6, hb6⟩
          have b6 := below_step b5 hb6
          go_wp2_with fail
          refine (KS.out _ _ _ _ _ _ _ (hs5.below hb6) hs6).mono ?_
          rintro e w7 ⟨rfl, hb7⟩
          go_wp2_with fail
          go_ret
          exact ⟨rfl, below_step b6 hb7⟩
        · clear hM hN hM1 hMr hab hr hMl hNl h1
          go_enter Try.func3, Try.ntmps3
          go_wp2_with fail
          refine (head_any w).mono ?_
          rintro e w1 ⟨rfl, hb1⟩
          go_wp2_with fail
          refine (KR.out _ hb1).mono ?_
          rintro e w2 ⟨rfl, hb2⟩
          have b2 := below_step hb1 hb2
          have cv1 := cva.out _ b2
          have cv2 := cvb.out _ b2
          go_wp2_with fail
          refine (KP1.out _ b2).mono ?_
          rintro e w3 ⟨C3, q3, ys, rfl, hs3, hb3⟩
          have b3 := below_step b2 hb3
          go_wp2_with fail
          refine (KP2.out _ b3).mono ?_
          rintro e w4 ⟨C4, q4, zs, rfl, hs4, hb4⟩
          have b4 := below_step b3 hb4
          clear cv1 cv2
          go_wp2_with fail
          go_ret
          exact ⟨rfl, b4⟩
      · clear hM hN hab hr hMl hNl h2
        go_enter Try.func3, Try.ntmps3
        go_wp2_with fail
        refine (head_any w).mono ?_
        rintro e w1 ⟨rfl, hb1⟩
        go_wp2_with fail
        refine (KR.out _ hb1).mono ?_
        rintro e w2 ⟨rfl, hb2⟩
        have b2 := below_step hb1 hb2
        have cv1 := cva.out _ b2
        have cv2 := cvb.out _ b2
        go_wp2_with fail
        refine (KP1.out _ b2).mono ?_
        rintro e w3 ⟨C3, q3, ys, rfl, hs3, hb3⟩
        have b3 := below_step b2 hb3
        go_wp2_with fail
        refine (KP2.out _ b3).mono ?_
        rintro e w4 ⟨C4, q4, zs, rfl, hs4, hb4⟩
        have b4 := below_step b3 hb4
        clear cv1 cv2
        go_wp2_with fail
        go_ret
        exact ⟨rfl, b4⟩
end Go.Proofs.Ytkmeoobbjdbhjaa
