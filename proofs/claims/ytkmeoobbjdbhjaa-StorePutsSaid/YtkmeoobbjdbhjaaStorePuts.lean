/-
  The walk of the law StorePuts.
-/
import Derived.Test.YtkmeoobbjdbhjaaStoreL
namespace Go.Proofs.Ytkmeoobbjdbhjaa
open Go.RowKit Go.Cov Go.Lib
set_option maxRecDepth 100000 in
set_option maxHeartbeats 3200000 in
theorem puts_law {A B V O : Option Addr} {c d f g : Nat} {xs : List Pr} {L : PL} {m v o : List UInt8} {w : World} (h : St w A c xs L) (hz : xs.length ≤ 2932031007403) (hB : Rd w B (m.map byt)) (hm : m.length ≤ 140737488351236) (hV : Rd w V (v.map byt)) (hv : v.length ≤ 140737488351236) (hO : Rd w O (o.map byt)) :
    Calls Try.prog 4 #[.slice A xs.length c, .slice B m.length d, .slice V v.length f, .slice O o.length g] w fun e w' => e = .returned (.bool true) ∧ Below w.heap.size w w' := by
  have KR := hid (fun W (hW : Below w.heap.size w W) => right_st (h.below hW) hz)
  cases hr : rightP L with
  | false =>
    rw [hr] at KR
    go_enter Try.func4, Try.ntmps4
    go_wp2_with fail
    refine (head_any w).mono ?_
    rintro e w1 ⟨rfl, hb1⟩
    go_wp2_with fail
    refine (KR.out _ hb1).mono ?_
    rintro e w2 ⟨rfl, hb2⟩
    go_wp2_with fail
    go_ret
    exact ⟨rfl, below_step hb1 hb2⟩
  | true =>
    rw [hr] at KR
    have HR := hid hr
    have hk := okay_iff.1 hr
    clear hr
    by_cases hbig : 64 < m.length ∨ 256 < v.length
    · have hp : putR L m v = ([], 1) := by rw [putR, if_pos hbig]
      have KP := hid (fun W (hW : Below w.heap.size w W) => put_st (d := d) (f := f) (h.below hW) hk (hB.below hW) hm (hV.below hW) hv)
      rw [hp] at KP
      have H := hid (show (64 : Int) < m.length ∨ ¬ (64 : Int) < m.length ∧ (256 : Int) < v.length by omega)
      clear hbig hp
      rcases H.out with j1 | ⟨j1, j2⟩
      all_goals
        go_enter Try.func4, Try.ntmps4
        go_wp2_with fail
        refine (head_any w).mono ?_
        rintro e w1 ⟨rfl, hb1⟩
        go_wp2_with fail
        refine (KR.out _ hb1).mono ?_
        rintro e w2 ⟨rfl, hb2⟩
        have b2 := below_step hb1 hb2
        go_wp2_with fail
        refine (KP.out _ b2).mono ?_
        rintro e w3 ⟨C, q, ys, rfl, hs3, hb3⟩
        have b3 := below_step b2 hb3
        go_wp2_with fail
        go_ret
        exact ⟨rfl, b3⟩
    · have hput : putR L m v = if 2048 < sizeP (insP L m v) then ([], 71) else (insP L m v, 0) := by rw [putR, if_neg hbig]
      have KP := hid (fun W (hW : Below w.heap.size w W) => put_st (d := d) (f := f) (h.below hW) hk (hB.below hW) hm (hV.below hW) hv)
      rw [hput] at KP
      clear hput
      by_cases hsz : 2048 < sizeP (insP L m v)
      · rw [if_pos hsz] at KP
        go_enter Try.func4, Try.ntmps4
        go_wp2_with fail
        refine (head_any w).mono ?_
        rintro e w1 ⟨rfl, hb1⟩
        go_wp2_with fail
        refine (KR.out _ hb1).mono ?_
        rintro e w2 ⟨rfl, hb2⟩
        have b2 := below_step hb1 hb2
        go_wp2_with fail
        refine (KP.out _ b2).mono ?_
        rintro e w3 ⟨C, q, ys, rfl, hs3, hb3⟩
        have b3 := below_step b2 hb3
        go_wp2_with fail
        go_ret
        exact ⟨rfl, b3⟩
      · rw [if_neg hsz] at KP
        have hR2 := put_right HR.out hbig hsz
        have hR3 := del_right (k := m) hR2
        have g1 : getP (insP L m v) m = some v := get_ins hk.1
        have g2 : getP (delP (insP L m v) m) m = none := get_del (ins_up hk.1)
        have g3 : o ≠ m → getP (insP L m v) o = getP L o := fun hn => get_ins_other hk.1 hn
        have g4 : o ≠ m → getP (delP (insP L m v) m) o = getP L o := fun hn => (get_del_other (ins_up hk.1) hn).trans (get_ins_other hk.1 hn)
        have G5 := hid (show o = m → getP (delP (insP L m v) m) o = none from fun e => by rw [e]; exact g2)
        clear hbig hsz
        generalize hM : insP L m v = M at KP hR2 hR3 g1 g2 g3 g4 G5
        clear hM
        have KD := hid (fun W C q (ys : List Pr) (hs : St W C q ys M) (hW : Below w.heap.size w W) => del_st (d := d) hs (okay_iff.1 hR2) (hB.below hW))
        generalize hD : delP M m = D at KD hR3 g2 g4 G5
        clear hD
        have k1 := fun W C q (ys : List Pr) (hs : St W C q ys M) (hW : Below w.heap.size w W) => get_st (d := d) hs (okay_iff.1 hR2) (hB.below hW)
        rw [g1] at k1
        have K1 := hid k1
        have k2 := fun W C q (ys : List Pr) (hs : St W C q ys D) (hW : Below w.heap.size w W) => get_st (d := d) hs (okay_iff.1 hR3) (hB.below hW)
        rw [g2] at k2
        have K2 := hid k2
        have K3 := hid (fun W (hW : Below w.heap.size w W) => get_st (d := g) (h.below hW) hk (hO.below hW))
        have K4 := hid (fun W C q (ys : List Pr) (hs : St W C q ys M) (hW : Below w.heap.size w W) => get_st (d := g) hs (okay_iff.1 hR2) (hO.below hW))
        have K5 := hid (fun W C q (ys : List Pr) (hs : St W C q ys D) (hW : Below w.heap.size w W) => get_st (d := g) hs (okay_iff.1 hR3) (hO.below hW))
        have k6 := fun W C q (ys : List Pr) (hs : St W C q ys M) => right_st hs (by have := (okay_iff.1 hR2).len; have := hs.len; omega)
        rw [hR2] at k6
        have K6 := hid k6
        have k7 := fun W C q (ys : List Pr) (hs : St W C q ys D) => right_st hs (by have := (okay_iff.1 hR3).len; have := hs.len; omega)
        rw [hR3] at k7
        have K7 := hid k7
        have G3 := hid g3
        have G4 := hid g4
        clear k1 k2 k6 k7 g1 g2 g3 g4 hR2 hR3 HR
        generalize getP M o = rM at K4 G3
        generalize getP D o = rD at K5 G4 G5
        generalize getP L o = rL at K3 G3 G4
        go_enter Try.func4, Try.ntmps4
        go_wp2_with fail
        refine (head_any w).mono ?_
        rintro e w1 ⟨rfl, hb1⟩
        go_wp2_with fail
        refine (KR.out _ hb1).mono ?_
        rintro e w2 ⟨rfl, hb2⟩
        have b2 := below_step hb1 hb2
        go_wp2_with fail
        refine (KP.out _ b2).mono ?_
        rintro e w3 ⟨C, q, ys, rfl, hs3, hb3⟩
        have b3 := below_step b2 hb3
        go_wp2_with fail
        refine (K1.out _ _ _ _ hs3 b3).mono ?_
        rintro e w4 ⟨E1, e1, r1, rfl, hr1, rd1, hb4⟩
        rw [show (some v).getD [] = v from rfl] at hr1
        subst hr1
        have hs4 := hs3.below hb4
        have b4 := below_step b3 hb4
        go_wp2_with fail
        refine (KD.out _ _ _ _ hs4 b4).mono ?_
        rintro e w5 ⟨C5, q5, zs, rfl, ds5, hb5⟩
        have hs5 := hs4.below hb5
        have b5 := below_step b4 hb5
        go_wp2_with fail
        refine (K2.out _ _ _ _ ds5 b5).mono ?_
        rintro e w6 ⟨E2, e2, r2, rfl, hr2, rd2, hb6⟩
        have b6 := below_step b5 hb6
        have cv1 := conv_bs (P := Try.prog) Try.underlying23 Try.underlying5 Try.underlying9 ((rd1.below hb5).below hb6) e1
        have cv2 := conv_bs (P := Try.prog) Try.underlying23 Try.underlying5 Try.underlying9 (hV.below b6) f
        go_wp2_with fail
        refine (K6.out _ _ _ _ ((hs5.below hb6))).mono ?_
        rintro e w7 ⟨rfl, hb7⟩
        have hs7 := (hs5.below hb6).below hb7
        have ds7 := (ds5.below hb6).below hb7
        have b7 := below_step b6 hb7
        go_wp2_with fail
        refine (K7.out _ _ _ _ ds7).mono ?_
        rintro e w8 ⟨rfl, hb8⟩
        have hs8 := hs7.below hb8
        have ds8 := ds7.below hb8
        have b8 := below_step b7 hb8
        clear cv1 cv2
        go_wp2_with fail
        refine (K3.out _ b8).mono ?_
        rintro e w9 ⟨E3, e3, r3, rfl, hr3, rd3, hb9⟩
        have hs9 := hs8.below hb9
        have ds9 := ds8.below hb9
        have b9 := below_step b8 hb9
        have Hr3 := hid hr3
        clear hr3
        go_wp2_with fail
        refine (K4.out _ _ _ _ hs9 b9).mono ?_
        rintro e w10 ⟨E4, e4, r4, rfl, hr4, rd4, hb10⟩
        have ds10 := ds9.below hb10
        have b10 := below_step b9 hb10
        have Hr4 := hid hr4
        clear hr4
        go_wp2_with fail
        refine (K5.out _ _ _ _ ds10 b10).mono ?_
        rintro e w11 ⟨E5, e5, r5, rfl, hr5, rd5, hb11⟩
        have b11 := below_step b10 hb11
        have Hr5 := hid hr5
        clear hr5
        have cv1 := conv_bs (P := Try.prog) Try.underlying23 Try.underlying5 Try.underlying9 (hO.below b11) g
        have cv2 := conv_bs (P := Try.prog) Try.underlying23 Try.underlying5 Try.underlying9 (hB.below b11) d
        have sb := str_beq o m
        by_cases he : o = m
        · rw [decide_eq_true he] at sb
          have G6 : rD = none := G5.out he
          subst G6
          clear he
          go_wp2_with fail
          go_ret
          exact ⟨rfl, b11⟩
        · rw [decide_eq_false he] at sb
          have e1 : rM = rL := G3.out he
          have e2 : rD = rL := G4.out he
          subst e1 e2
          have e34 : r3 = r4 := Hr3.out.symm.trans Hr4.out
          have e35 : r3 = r5 := Hr3.out.symm.trans Hr5.out
          subst e34 e35
          clear he
          have cv3 := conv_bs (P := Try.prog) Try.underlying23 Try.underlying5 Try.underlying9 ((rd3.below hb10).below hb11) e3
          have cv4 := conv_bs (P := Try.prog) Try.underlying23 Try.underlying5 Try.underlying9 (rd4.below hb11) e4
          have cv5 := conv_bs (P := Try.prog) Try.underlying23 Try.underlying5 Try.underlying9 rd5 e5
          go_wp2_with fail
          go_ret
          exact ⟨rfl, b11⟩
end Go.Proofs.Ytkmeoobbjdbhjaa
