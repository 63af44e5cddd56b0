/-
  The walk of the law StoreSizes.
-/
import Derived.Test.YtkmeoobbjdbhjaaStoreL
namespace Go.Proofs.Ytkmeoobbjdbhjaa
open Go.RowKit Go.Cov Go.Lib
theorem st_nil {w : World} {A : Option Addr} {c : Nat} {ys : List Pr} (h : St w A c ys []) : ys = [] := List.map_eq_nil_iff.1 h.2.2
set_option maxRecDepth 100000 in
set_option maxHeartbeats 3200000 in
theorem sizes_law {A B V : Option Addr} {c d f : Nat} {xs : List Pr} {L : PL} {m v : List UInt8} {w : World} (h : St w A c xs L) (hz : xs.length ≤ 2932031007403) (hB : Rd w B (m.map byt)) (hm : m.length ≤ 140737488351236) (hV : Rd w V (v.map byt)) (hv : v.length ≤ 140737488351236) :
    Calls Try.prog 5 #[.slice A xs.length c, .slice B m.length d, .slice V v.length f] w fun e w' => e = .returned (.bool true) ∧ Below w.heap.size w w' := by
  have KR := hid (fun W (hW : Below w.heap.size w W) => right_st (h.below hW) hz)
  cases hr : rightP L with
  | false =>
    rw [hr] at KR
    go_enter Try.func5, Try.ntmps5
    go_wp2_with fail
    refine (head_any w).mono ?_
    rintro e w1 ⟨rfl, hb1⟩
    go_wp2_with fail
    refine (KR.out _ hb1).mono ?_
    rintro e w2 ⟨rfl, hb2⟩
    go_wp2_with fail
    go_ret
    exact ⟨rfl, below_step hb1 hb2⟩
  | true =>
    rw [hr] at KR
    have hk := okay_iff.1 hr
    have HR := hid hr
    clear hr
    have HK := hid hk
    have KZ := hid (fun W (hW : Below w.heap.size w W) => size_st (h.below hW) (Nat.le_trans hk.2.2 (by decide)))
    have kp := fun W (hW : Below w.heap.size w W) => put_st (d := d) (f := f) (h.below hW) hk (hB.below hW) hm (hV.below hW) hv
    have kg := fun W (hW : Below w.heap.size w W) => get_st (d := d) (h.below hW) hk (hB.below hW)
    have hS := hk.2.2
    rcases size_ins (k := m) (v := v) hk.1 with ⟨hg, hins⟩ | ⟨o, hg, hins⟩
    all_goals
      rw [hg] at kg
      have KG := hid kg
      clear kg hg hk
    · by_cases hbig : 64 < m.length ∨ 256 < v.length
      · have hp : putR L m v = ([], 1) := by rw [putR, if_pos hbig]
        rw [hp] at kp
        have KP := hid kp
        clear kp
        have H := hid (show (64 : Int) < m.length ∨ ¬ (64 : Int) < m.length ∧ (256 : Int) < v.length by omega)
        clear hbig hp
        rcases H.out with j1 | ⟨j1, j2⟩
        all_goals
          go_enter Try.func5, Try.ntmps5
          go_wp2_with fail
          refine (head_any w).mono ?_
          rintro e w1 ⟨rfl, hb1⟩
          go_wp2_with fail
          refine (KR.out _ hb1).mono ?_
          rintro e w2 ⟨rfl, hb2⟩
          have b2 := below_step hb1 hb2
          go_wp2_with fail
          refine (KG.out _ b2).mono ?_
          rintro e w3 ⟨E1, e1, r, rfl, hr1, rd1, hb3⟩
          have hr2 : r.length = 0 := by rw [← hr1]; rfl
          clear hr1
          have b3 := below_step b2 hb3
          go_wp2_with fail
          refine (KZ.out _ b3).mono ?_
          rintro e w4 ⟨rfl, hb4⟩
          have b4 := below_step b3 hb4
          have x1 : IntKind.i64.wrap ((sizeP L : Int) + (v.length : Int)) = (sizeP L : Int) + (v.length : Int) := wrap_of _ (by omega) (by omega)
          have x2 : IntKind.i64.wrap ((sizeP L : Int) + (v.length : Int) - (r.length : Int)) = (sizeP L : Int) + (v.length : Int) := (wrap_of _ (by omega) (by omega)).trans (by omega)
          have x3 : IntKind.i64.wrap ((sizeP L : Int) + (v.length : Int) + 8) = (sizeP L : Int) + (v.length : Int) + 8 := wrap_of _ (by omega) (by omega)
          have x4 : IntKind.i64.wrap ((sizeP L : Int) + (v.length : Int) + 8 + (m.length : Int)) = ((sizeP (insP L m v) : Nat) : Int) := (wrap_of _ (by omega) (by omega)).trans (by omega)
          have HINS := hid hins
          have HS := hid hS
          have HR2 := hid hr2
          clear hins hS hr2
          go_wp2_with fail
          refine (KP.out _ b4).mono ?_
          rintro e w5 ⟨C, q, ys, rfl, hs5, hb5⟩
          have b5 := below_step b4 hb5
          obtain rfl := st_nil hs5
          go_wp2_with fail
          go_ret
          exact ⟨rfl, b5⟩
      · have hput : putR L m v = if 2048 < sizeP (insP L m v) then ([], 71) else (insP L m v, 0) := by rw [putR, if_neg hbig]
        have j1 : ¬ (64 : Int) < m.length := by omega
        have j2 : ¬ (256 : Int) < v.length := by omega
        rw [hput] at kp
        clear hput
        by_cases hsz : 2048 < sizeP (insP L m v)
        · rw [if_pos hsz] at kp
          have KP := hid kp
          clear kp
          have j3 : (2048 : Int) < sizeP (insP L m v) := by omega
          clear hbig hsz
          go_enter Try.func5, Try.ntmps5
          go_wp2_with fail
          refine (head_any w).mono ?_
          rintro e w1 ⟨rfl, hb1⟩
          go_wp2_with fail
          refine (KR.out _ hb1).mono ?_
          rintro e w2 ⟨rfl, hb2⟩
          have b2 := below_step hb1 hb2
          go_wp2_with fail
          refine (KG.out _ b2).mono ?_
          rintro e w3 ⟨E1, e1, r, rfl, hr1, rd1, hb3⟩
          have hr2 : r.length = 0 := by rw [← hr1]; rfl
          clear hr1
          have b3 := below_step b2 hb3
          go_wp2_with fail
          refine (KZ.out _ b3).mono ?_
          rintro e w4 ⟨rfl, hb4⟩
          have b4 := below_step b3 hb4
          have x1 : IntKind.i64.wrap ((sizeP L : Int) + (v.length : Int)) = (sizeP L : Int) + (v.length : Int) := wrap_of _ (by omega) (by omega)
          have x2 : IntKind.i64.wrap ((sizeP L : Int) + (v.length : Int) - (r.length : Int)) = (sizeP L : Int) + (v.length : Int) := (wrap_of _ (by omega) (by omega)).trans (by omega)
          have x3 : IntKind.i64.wrap ((sizeP L : Int) + (v.length : Int) + 8) = (sizeP L : Int) + (v.length : Int) + 8 := wrap_of _ (by omega) (by omega)
          have x4 : IntKind.i64.wrap ((sizeP L : Int) + (v.length : Int) + 8 + (m.length : Int)) = ((sizeP (insP L m v) : Nat) : Int) := (wrap_of _ (by omega) (by omega)).trans (by omega)
          have HINS := hid hins
          have HS := hid hS
          have HR2 := hid hr2
          clear hins hS hr2
          go_wp2_with fail
          refine (KP.out _ b4).mono ?_
          rintro e w5 ⟨C, q, ys, rfl, hs5, hb5⟩
          have b5 := below_step b4 hb5
          obtain rfl := st_nil hs5
          go_wp2_with fail
          go_ret
          exact ⟨rfl, b5⟩
        · rw [if_neg hsz] at kp
          have KP := hid kp
          clear kp
          have j3 : ¬ (2048 : Int) < sizeP (insP L m v) := by omega
          have hR2 := put_right HR.out hbig hsz
          have hok := okay_iff.1 hR2
          have hdel := size_del hok.1 (get_ins (k := m) (v := v) HK.out.1)
          have KD := hid (fun W C q (ys : List Pr) (hs : St W C q ys (insP L m v)) (hW : Below w.heap.size w W) => del_st (d := d) hs hok (hB.below hW))
          have KZ2 := hid (fun W C q (ys : List Pr) (hs : St W C q ys (insP L m v)) => size_st hs (Nat.le_trans hok.2.2 (by decide)))
          have KZ3 := hid (fun W C q (ys : List Pr) (hs : St W C q ys (delP (insP L m v) m)) => size_st hs (Nat.le_trans (size_del_le hok.1) (Nat.le_trans hok.2.2 (by decide))))
          have y1 : IntKind.i64.wrap ((sizeP (insP L m v) : Int) - 8) = (sizeP (insP L m v) : Int) - 8 := wrap_of _ (by omega) (by omega)
          have y2 : IntKind.i64.wrap ((sizeP (insP L m v) : Int) - 8 - (m.length : Int)) = (sizeP (insP L m v) : Int) - 8 - (m.length : Int) := wrap_of _ (by omega) (by omega)
          have y3 : IntKind.i64.wrap ((sizeP (insP L m v) : Int) - 8 - (m.length : Int) - (v.length : Int)) = (sizeP (delP (insP L m v) m) : Int) := (wrap_of _ (by omega) (by omega)).trans (by omega)
          have HD := hid hdel
          clear hbig hsz hdel hok hR2
          go_enter Try.func5, Try.ntmps5
          go_wp2_with fail
          refine (head_any w).mono ?_
          rintro e w1 ⟨rfl, hb1⟩
          go_wp2_with fail
          refine (KR.out _ hb1).mono ?_
          rintro e w2 ⟨rfl, hb2⟩
          have b2 := below_step hb1 hb2
          go_wp2_with fail
          refine (KG.out _ b2).mono ?_
          rintro e w3 ⟨E1, e1, r, rfl, hr1, rd1, hb3⟩
          have hr2 : r.length = 0 := by rw [← hr1]; rfl
          clear hr1
          have b3 := below_step b2 hb3
          go_wp2_with fail
          refine (KZ.out _ b3).mono ?_
          rintro e w4 ⟨rfl, hb4⟩
          have b4 := below_step b3 hb4
          have x1 : IntKind.i64.wrap ((sizeP L : Int) + (v.length : Int)) = (sizeP L : Int) + (v.length : Int) := wrap_of _ (by omega) (by omega)
          have x2 : IntKind.i64.wrap ((sizeP L : Int) + (v.length : Int) - (r.length : Int)) = (sizeP L : Int) + (v.length : Int) := (wrap_of _ (by omega) (by omega)).trans (by omega)
          have x3 : IntKind.i64.wrap ((sizeP L : Int) + (v.length : Int) + 8) = (sizeP L : Int) + (v.length : Int) + 8 := wrap_of _ (by omega) (by omega)
          have x4 : IntKind.i64.wrap ((sizeP L : Int) + (v.length : Int) + 8 + (m.length : Int)) = ((sizeP (insP L m v) : Nat) : Int) := (wrap_of _ (by omega) (by omega)).trans (by omega)
          have HINS := hid hins
          have HS := hid hS
          have HR2 := hid hr2
          clear hins hS hr2
          go_wp2_with fail
          refine (KP.out _ b4).mono ?_
          rintro e w5 ⟨C, q, ys, rfl, hs5, hb5⟩
          have b5 := below_step b4 hb5
          go_wp2_with fail
          refine (KZ2.out _ _ _ _ hs5).mono ?_
          rintro e w6 ⟨rfl, hb6⟩
          have b6 := below_step b5 hb6
          have hs6 := hs5.below hb6
          go_wp2_with fail
          refine (KD.out _ _ _ _ hs6 b6).mono ?_
          rintro e w7 ⟨C7, q7, zs, rfl, ds7, hb7⟩
          have b7 := below_step b6 hb7
          go_wp2_with fail
          refine (KZ3.out _ _ _ _ ds7).mono ?_
          rintro e w8 ⟨rfl, hb8⟩
          have b8 := below_step b7 hb8
          go_wp2_with fail
          go_ret
          exact ⟨rfl, b8⟩
    · by_cases hbig : 64 < m.length ∨ 256 < v.length
      · have hp : putR L m v = ([], 1) := by rw [putR, if_pos hbig]
        rw [hp] at kp
        have KP := hid kp
        clear kp
        have H := hid (show (64 : Int) < m.length ∨ ¬ (64 : Int) < m.length ∧ (256 : Int) < v.length by omega)
        clear hbig hp
        rcases H.out with j1 | ⟨j1, j2⟩
        all_goals
          go_enter Try.func5, Try.ntmps5
          go_wp2_with fail
          refine (head_any w).mono ?_
          rintro e w1 ⟨rfl, hb1⟩
          go_wp2_with fail
          refine (KR.out _ hb1).mono ?_
          rintro e w2 ⟨rfl, hb2⟩
          have b2 := below_step hb1 hb2
          go_wp2_with fail
          refine (KG.out _ b2).mono ?_
          rintro e w3 ⟨E1, e1, r, rfl, hr1, rd1, hb3⟩
          obtain rfl : o = r := hr1
          have b3 := below_step b2 hb3
          go_wp2_with fail
          refine (KZ.out _ b3).mono ?_
          rintro e w4 ⟨rfl, hb4⟩
          have b4 := below_step b3 hb4
          have x1 : IntKind.i64.wrap ((sizeP L : Int) + (v.length : Int)) = (sizeP L : Int) + (v.length : Int) := wrap_of _ (by omega) (by omega)
          have x2 : IntKind.i64.wrap ((sizeP L : Int) + (v.length : Int) - (o.length : Int)) = ((sizeP (insP L m v) : Nat) : Int) := (wrap_of _ (by omega) (by omega)).trans (by omega)
          have HINS := hid hins
          have HS := hid hS
          clear hins hS
          go_wp2_with fail
          refine (KP.out _ b4).mono ?_
          rintro e w5 ⟨C, q, ys, rfl, hs5, hb5⟩
          have b5 := below_step b4 hb5
          obtain rfl := st_nil hs5
          go_wp2_with fail
          go_ret
          exact ⟨rfl, b5⟩
      · have hput : putR L m v = if 2048 < sizeP (insP L m v) then ([], 71) else (insP L m v, 0) := by rw [putR, if_neg hbig]
        have j1 : ¬ (64 : Int) < m.length := by omega
        have j2 : ¬ (256 : Int) < v.length := by omega
        rw [hput] at kp
        clear hput
        by_cases hsz : 2048 < sizeP (insP L m v)
        · rw [if_pos hsz] at kp
          have KP := hid kp
          clear kp
          have j3 : (2048 : Int) < sizeP (insP L m v) := by omega
          clear hbig hsz
          go_enter Try.func5, Try.ntmps5
          go_wp2_with fail
          refine (head_any w).mono ?_
          rintro e w1 ⟨rfl, hb1⟩
          go_wp2_with fail
          refine (KR.out _ hb1).mono ?_
          rintro e w2 ⟨rfl, hb2⟩
          have b2 := below_step hb1 hb2
          go_wp2_with fail
          refine (KG.out _ b2).mono ?_
          rintro e w3 ⟨E1, e1, r, rfl, hr1, rd1, hb3⟩
          obtain rfl : o = r := hr1
          have b3 := below_step b2 hb3
          go_wp2_with fail
          refine (KZ.out _ b3).mono ?_
          rintro e w4 ⟨rfl, hb4⟩
          have b4 := below_step b3 hb4
          have x1 : IntKind.i64.wrap ((sizeP L : Int) + (v.length : Int)) = (sizeP L : Int) + (v.length : Int) := wrap_of _ (by omega) (by omega)
          have x2 : IntKind.i64.wrap ((sizeP L : Int) + (v.length : Int) - (o.length : Int)) = ((sizeP (insP L m v) : Nat) : Int) := (wrap_of _ (by omega) (by omega)).trans (by omega)
          have HINS := hid hins
          have HS := hid hS
          clear hins hS
          go_wp2_with fail
          refine (KP.out _ b4).mono ?_
          rintro e w5 ⟨C, q, ys, rfl, hs5, hb5⟩
          have b5 := below_step b4 hb5
          obtain rfl := st_nil hs5
          go_wp2_with fail
          go_ret
          exact ⟨rfl, b5⟩
        · rw [if_neg hsz] at kp
          have KP := hid kp
          clear kp
          have j3 : ¬ (2048 : Int) < sizeP (insP L m v) := by omega
          have hR2 := put_right HR.out hbig hsz
          have hok := okay_iff.1 hR2
          have hdel := size_del hok.1 (get_ins (k := m) (v := v) HK.out.1)
          have KD := hid (fun W C q (ys : List Pr) (hs : St W C q ys (insP L m v)) (hW : Below w.heap.size w W) => del_st (d := d) hs hok (hB.below hW))
          have KZ2 := hid (fun W C q (ys : List Pr) (hs : St W C q ys (insP L m v)) => size_st hs (Nat.le_trans hok.2.2 (by decide)))
          have KZ3 := hid (fun W C q (ys : List Pr) (hs : St W C q ys (delP (insP L m v) m)) => size_st hs (Nat.le_trans (size_del_le hok.1) (Nat.le_trans hok.2.2 (by decide))))
          have y1 : IntKind.i64.wrap ((sizeP (insP L m v) : Int) - 8) = (sizeP (insP L m v) : Int) - 8 := wrap_of _ (by omega) (by omega)
          have y2 : IntKind.i64.wrap ((sizeP (insP L m v) : Int) - 8 - (m.length : Int)) = (sizeP (insP L m v) : Int) - 8 - (m.length : Int) := wrap_of _ (by omega) (by omega)
          have y3 : IntKind.i64.wrap ((sizeP (insP L m v) : Int) - 8 - (m.length : Int) - (v.length : Int)) = (sizeP (delP (insP L m v) m) : Int) := (wrap_of _ (by omega) (by omega)).trans (by omega)
          have HD := hid hdel
          clear hbig hsz hdel hok hR2
          go_enter Try.func5, Try.ntmps5
          go_wp2_with fail
          refine (head_any w).mono ?_
          rintro e w1 ⟨rfl, hb1⟩
          go_wp2_with fail
          refine (KR.out _ hb1).mono ?_
          rintro e w2 ⟨rfl, hb2⟩
          have b2 := below_step hb1 hb2
          go_wp2_with fail
          refine (KG.out _ b2).mono ?_
          rintro e w3 ⟨E1, e1, r, rfl, hr1, rd1, hb3⟩
          obtain rfl : o = r := hr1
          have b3 := below_step b2 hb3
          go_wp2_with fail
          refine (KZ.out _ b3).mono ?_
          rintro e w4 ⟨rfl, hb4⟩
          have b4 := below_step b3 hb4
          have x1 : IntKind.i64.wrap ((sizeP L : Int) + (v.length : Int)) = (sizeP L : Int) + (v.length : Int) := wrap_of _ (by omega) (by omega)
          have x2 : IntKind.i64.wrap ((sizeP L : Int) + (v.length : Int) - (o.length : Int)) = ((sizeP (insP L m v) : Nat) : Int) := (wrap_of _ (by omega) (by omega)).trans (by omega)
          have HINS := hid hins
          have HS := hid hS
          clear hins hS
          go_wp2_with fail
          refine (KP.out _ b4).mono ?_
          rintro e w5 ⟨C, q, ys, rfl, hs5, hb5⟩
          have b5 := below_step b4 hb5
          go_wp2_with fail
          refine (KZ2.out _ _ _ _ hs5).mono ?_
          rintro e w6 ⟨rfl, hb6⟩
          have b6 := below_step b5 hb6
          have hs6 := hs5.below hb6
          go_wp2_with fail
          refine (KD.out _ _ _ _ hs6 b6).mono ?_
          rintro e w7 ⟨C7, q7, zs, rfl, ds7, hb7⟩
          have b7 := below_step b6 hb7
          go_wp2_with fail
          refine (KZ3.out _ _ _ _ ds7).mono ?_
          rintro e w8 ⟨rfl, hb8⟩
          have b8 := below_step b7 hb8
          go_wp2_with fail
          go_ret
          exact ⟨rfl, b8⟩
end Go.Proofs.Ytkmeoobbjdbhjaa
