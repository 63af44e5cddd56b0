import Derived.Test.YtahehikpbhneeaaWireL
namespace Go.Proofs.Ytahehikpbhneeaa
open Go.RowKit Go.Cov
set_option maxHeartbeats 1600000 in
theorem rrow_any {A : Option Addr} {c : Nat} {l : List UInt8} {w : World} (h : Rd w A (l.map byt)) (hc : l.length ≤ c) (hl : l.length ≤ 140737488351236) (a : Int) :
    Calls Try.prog 27 #[.slice A l.length c, .int .i64 a] w fun e w' => ∃ v, e = .returned (.tuple #[v, .int .i64 (rowR l a).2.1, .int .i64 (rowR l a).2.2]) ∧ OwnRows w' w.heap.size 22 v (rowR l a).1 ∧ Below w.heap.size w w' := by
  have hs := size_any h hc hl a 1024 1024 rfl
  rcases sizeR_cases l a 1024 with ⟨e, he, hz⟩ | ⟨k0, rfl, hk0, hm, hz⟩
  · have he0 : e ≠ 0 := by rcases he with rfl | rfl | rfl <;> decide
    have her3 : (e != 0) = true := by simpa using he0
    have hR : rowR l a = ([], 0, e) := by rw [rowR, hz, if_neg he0]
    rw [hz] at hs
    dsimp only at hs
    rw [hR]
    dsimp only
    clear hR hz he
    go_enter Try.func27, Try.ntmps27
    go_wp2_with fail
    refine hs.mono ?_
    rintro e w' ⟨rfl, nd, rfl⟩
    go_wp2_with fail
    go_ret3
    exact ⟨_, rfl, OwnRows.nil _ _ _, below_drewN (Below.refl _ _) nd⟩
  · have hR : rowR l k0 = rowGo l (nat ((l.drop k0).take 4)) ((k0 : Int) + 4) := by rw [rowR, hz]; rfl
    rw [hz] at hs
    dsimp only at hs
    generalize nat ((l.drop k0).take 4) = n at hm hs hR
    generalize (k0 : Int) + 4 = p0 at hs hR
    generalize rowR l k0 = R at hR ⊢
    have HR := hid hR
    clear hR hz
    go_enter Try.func27, Try.ntmps27
    go_wp2_with fail
    refine hs.mono ?_
    rintro e w0 ⟨rfl, nd, hw0⟩
    have hb0 : Below w.heap.size w w0 := by subst hw0; exact below_drewN (Below.refl _ _) nd
    clear hw0
    go_wp2_with fail
    go_loopw [8, 10, 11] (fun p v i W => ∃ (k : Nat) (p' : Int) (v' : Value) (acc : List (List UInt8)), k ≤ n ∧ i = .int .i64 k ∧ p = .int .i64 p' ∧ v' = v ∧ acc.length = k ∧ OwnRows W w.heap.size 22 v' acc ∧ R = preRow acc (rowGo l (n - k) p') ∧ Below w.heap.size w W) (fun _ _ i _ => n - (intOf i).toNat)
    case atStart => exact ⟨0, p0, _, [], Nat.zero_le _, rfl, rfl, rfl, rfl, OwnRows.nil _ _ _, by rw [HR.out, Nat.sub_zero, rowGo_pre], hb0⟩
    case round =>
      obtain ⟨k, p, v, acc, hk, rfl, rfl, rfl, hacc, hown, hRk, hb⟩ := hrel
      by_cases hlt : k < n
      · have hbt := rbytes_any (h.below hb) hc hl p
        generalize hg : bytesR l p = g at hbt
        obtain ⟨t, q, er⟩ := g
        dsimp only at hbt
        by_cases her : er = 0
        · subst her
          have hst := hid (preRow_step (acc := acc) hlt hg)
          have HRk := hid hRk
          have Hacc := hid hacc
          clear hRk hacc hg
          go_wp2_with fail
          refine hbt.mono ?_
          rintro e w2 ⟨v2, rfl, hown2, hb2⟩
          obtain ⟨A2, c2, rfl, hc2, hm2, _⟩ := own_shape hown2
          have r2 := own_rd hown2
          have hown' := (hown.below hb2).below (below_alloc w2 (.cells #[.slice A2 t.length c2] 22))
          have hbk : ∀ kk, v.ownBlock = some kk → kk < wr.heap.size := fun kk hkk => by obtain ⟨vs, h1, _⟩ := hown; exact (own_lt h1 hkk).2
          have hbb : ∀ kk, v.ownBlock = some kk → w.heap.size ≤ kk := fun kk hkk => by obtain ⟨vs, h1, _⟩ := hown; exact (own_lt h1 hkk).1
          obtain ⟨vs, h1, h2⟩ := hown'
          have hA2 : ∀ ad, A2 = some ad → w.heap.size ≤ ad.block ∧ ad.block < (w2.alloc (.cells #[.slice A2 t.length c2] 22)).heap.size ∧ some ad.block ≠ v.ownBlock := fun ad hA => by
            have hl2 := own_lt hown2 (k := ad.block) (by rw [hA]; rfl)
            refine ⟨by have := hb.size; omega, by simp; omega, fun hh => ?_⟩
            have := hbk _ hh.symm
            omega
          have H2 := hid h2
          have HA2 := hid hA2
          clear h2 hA2
          go_wp2_with (at_builtin; refine wpList_app rfl (.tmp 40) (.tmp 42) 32 rfl w.heap.size 22 Try.underlying32 infoR rfl (by decide) v acc.length vs rfl h1 (some ⟨w2.heap.size, 0, none⟩) 1 1 [.slice A2 t.length c2] rfl rfl (rd_box w2 #[.slice A2 t.length c2] 22) (by intro u hu; simp at hu; subst hu; rfl) (by have := Hacc.out; omega) (by have := Hacc.out; omega) (by have := hb.size; have := hb2.size; simp; omega) ?_; intro v3 w3 hin3 hg3 hat3; have hb3 : Below w.heap.size w w3 := (((hb.trans (hb2.mono hb.size)).alloc (by have := hb.size; have := hb2.size; omega) _).grown hg3 (by have := hb.size; have := hb2.size; simp; omega) hbb); have hnew := OwnRows.app H2.out (by have := h1.1; omega) hin3 hg3 hat3 hc2 hm2 (r2.alloc _) HA2.out)
          go_roundw
          case rel => exact ⟨k + 1, q, _, acc ++ [t], by omega, by go_num, rfl, rfl, by simp [Hacc.out], hnew, by rw [HRk.out, hst.out], hb3⟩
          case measure => simp [intOf]; omega
        · have hst := hid (preRow_stop (acc := acc) hlt hg her)
          have HRk := hid hRk
          clear hRk hacc hg
          have her2 : (er != 0) = true := by simpa using her
          go_wp2_with fail
          refine hbt.mono ?_
          rintro e w2 ⟨v2, rfl, hown2, hb2⟩
          go_wp2_with fail
          go_ret3
          rw [HRk.out, hst.out]
          exact ⟨_, rfl, OwnRows.nil _ _ _, hb.trans (hb2.mono hb.size)⟩
      · obtain rfl : k = n := by omega
        have HRk := hid hRk
        clear hRk hacc
        go_wp2_with fail
        go_ret3
        rw [HRk.out, Nat.sub_self, rowGo, preRow_ok, List.append_nil]
        exact ⟨_, rfl, hown, hb⟩
set_option maxHeartbeats 800000 in
theorem same_any {A B : Option Addr} {c d : Nat} {ls ms : List (List UInt8)} {w : World} (h : RowRd w A ls) (g : RowRd w B ms) (hl : ls.length ≤ 140737488351236) (hm : ms.length ≤ 140737488351236) :
    Calls Try.prog 23 #[.slice A ls.length c, .slice B ms.length d] w fun e w' => e = .returned (.bool (decide (ls = ms))) ∧ ∃ k, w' = w.drewN k := by
  by_cases he : ls.length = ms.length
  · have he' : (((ls.length : Int)) != (ms.length : Int)) = false := by rw [he]; simp
    have He := hid he
    clear he
    go_enter Try.func23, Try.ntmps23
    go_wp2_with fail
    go_loopw [5] (fun i W => ∃ (k : Nat), k ≤ ls.length ∧ i = .int .i64 k ∧ ls.take k = ms.take k ∧ ∃ n, W = w.drewN n) (fun i _ => ls.length - (intOf i).toNat)
    case atStart => exact ⟨0, Nat.zero_le _, rfl, by simp, 0, rfl⟩
    case round =>
      obtain ⟨k, hk, rfl, hall, nd, hwr⟩ := hrel
      have hb : Below w.heap.size w wr := by subst hwr; exact below_drewN (Below.refl _ _) nd
      have Hw := hid hwr
      have Hall := hid hall
      clear hwr hall
      by_cases hlt : k < ls.length
      · have hkm : k < ms.length := by have := He.out; omega
        obtain ⟨ad, C, cc, rfl, hcell, hcc, _, hr⟩ := (h.below hb).at' k hlt
        obtain ⟨bd, D, dd, rfl, dcell, hdd, _, gr⟩ := (g.below hb).at' k hkm
        have i1 : (0 : Int) ≤ (k : Int) := by omega
        have i2 : (k : Int) < (ls.length : Int) := by omega
        have i3 : (k : Int) < (ms.length : Int) := by omega
        have cv1 := fun n => conv_bs (P := Try.prog) Try.underlying22 Try.underlying5 Try.underlying9 (hr.below (below_drewN (Below.refl _ _) n)) cc
        have cv2 := fun n => conv_bs (P := Try.prog) Try.underlying22 Try.underlying5 Try.underlying9 (gr.below (below_drewN (Below.refl _ _) n)) dd
        by_cases hx : ls[k] = ms[k]
        · have hst : Hid (ls.take (k + 1) = ms.take (k + 1)) := hid (by rw [List.take_succ_eq_append_getElem hlt, List.take_succ_eq_append_getElem hkm, Hall.out, hx])
          have hx2 := str_eq ls[k]
          rw [← hx] at dcell cv2
          generalize ls[k] = t at hcell dcell cv1 cv2 hx2
          clear hr gr hx
          go_wp2_with fail
          go_quiet (fail)
          go_wp2_with fail
          go_roundw
          case rel => exact ⟨k + 1, by omega, by go_num, hst.out, nd + nq, by rw [Hw.out, World.drewN_drewN]⟩
          case measure => simp [intOf]; omega
        · have hne : Hid (ls ≠ ms) := hid (fun hh => hx (by subst hh; rfl))
          have hx2 := str_ne hx
          generalize ls[k] = t at hcell cv1 hx2
          generalize ms[k] = t2 at dcell cv2 hx2
          clear hr gr hx
          go_wp2_with fail
          go_quiet (fail)
          go_wp2_with fail
          go_ret
          exact ⟨congrArg (fun x => Ending.returned (.bool x)) (decide_eq_false hne.out).symm, nd + nq, by rw [Hw.out, World.drewN_drewN]⟩
      · obtain rfl : k = ls.length := by omega
        go_wp2_with fail
        go_ret
        have h1 := Hall.out
        rw [List.take_of_length_le (Nat.le_refl _), He.out, List.take_of_length_le (Nat.le_refl _)] at h1
        exact ⟨congrArg (fun x => Ending.returned (.bool x)) (decide_eq_true h1).symm, nd, Hw.out⟩
  · have hne : Hid (ls ≠ ms) := hid (fun hh => he (by rw [hh]))
    have he' : (((ls.length : Int)) != (ms.length : Int)) = true := by rw [bne_iff_ne]; omega
    clear he
    go_enter Try.func23, Try.ntmps23
    go_wp2_with fail
    go_ret
    exact ⟨congrArg (fun x => Ending.returned (.bool x)) (decide_eq_false hne.out).symm, 0, rfl⟩
end Go.Proofs.Ytahehikpbhneeaa
