import Derived.Test.YtkmeoobbjdbhjaaWireL
namespace Go.Proofs.Ytkmeoobbjdbhjaa
open Go.RowKit Go.Cov
set_option maxHeartbeats 1600000 in
theorem rrow_any {A : Option Addr} {c : Nat} {l : List UInt8} {w : World} (h : Rd w A (l.map byt)) (hc : l.length ≤ c) (hl : l.length ≤ 140737488351236) (a : Int) :
    Calls Try.prog 36 #[.slice A l.length c, .int .i64 a] w fun e w' => ∃ v, e = .returned (.tuple #[v, .int .i64 (rowR l a).2.1, .int .i64 (rowR l a).2.2]) ∧ OwnRows w' w.heap.size 23 v (rowR l a).1 ∧ Below w.heap.size w w' := by
  have hs := size_any h hc hl a 1024 1024 rfl
  rcases sizeR_cases l a 1024 with ⟨e, he, hz⟩ | ⟨k0, rfl, hk0, hm, hz⟩
  · have he0 : e ≠ 0 := by rcases he with rfl | rfl | rfl <;> decide
    have her3 : (e != 0) = true := by simpa using he0
    have hR : rowR l a = ([], 0, e) := by rw [rowR, hz, if_neg he0]
    rw [hz] at hs
    dsimp only at hs
    rw [hR]
    dsimp only
    clear hR hz he
    go_enter Try.func36, Try.ntmps36
    go_wp2_with fail
    refine hs.mono ?_
    rintro e w' ⟨rfl, nd, rfl⟩
    go_wp2_with fail
    go_ret3
    exact ⟨_, rfl, OwnRows.nil _ _ _, below_drewN (Below.refl _ _) nd⟩
  · have hR : rowR l k0 = rowGo l (nat ((l.drop k0).take 4)) ((k0 : Int) + 4) := by rw [rowR, hz]; rfl
    rw [hz] at hs
    dsimp only at hs
    generalize nat ((l.drop k0).take 4) = n at hm hs hR
    generalize (k0 : Int) + 4 = p0 at hs hR
    generalize rowR l k0 = R at hR ⊢
    have HR := hid hR
    clear hR hz
    go_enter Try.func36, Try.ntmps36
    go_wp2_with fail
    refine hs.mono ?_
    rintro e w0 ⟨rfl, nd, hw0⟩
    have hb0 : Below w.heap.size w w0 := by subst hw0; exact below_drewN (Below.refl _ _) nd
    clear hw0
    go_wp2_with fail
    go_loopw [8, 10, 11] (fun p v i W => ∃ (k : Nat) (p' : Int) (v' : Value) (acc : List (List UInt8)), k ≤ n ∧ i = .int .i64 k ∧ p = .int .i64 p' ∧ v' = v ∧ acc.length = k ∧ OwnRows W w.heap.size 23 v' acc ∧ R = preRow acc (rowGo l (n - k) p') ∧ Below w.heap.size w W) (fun _ _ i _ => n - (intOf i).toNat)
    case atStart => exact ⟨0, p0, _, [], Nat.zero_le _, rfl, rfl, rfl, rfl, OwnRows.nil _ _ _, by rw [HR.out, Nat.sub_zero, rowGo_pre], hb0⟩
    case round =>
      obtain ⟨k, p, v, acc, hk, rfl, rfl, rfl, hacc, hown, hRk, hb⟩ := hrel
      by_cases hlt : k < n
      · have hbt := rbytes_any (h.below hb) hc hl p
        generalize hg : bytesR l p = g at hbt
        obtain ⟨t, q, er⟩ := g
        dsimp only at hbt
        by_cases her : er = 0
        · subst her
          have hst := hid (preRow_step (acc := acc) hlt hg)
          have HRk := hid hRk
          have Hacc := hid hacc
          clear hRk hacc hg
          go_wp2_with fail
          refine hbt.mono ?_
          rintro e w2 ⟨v2, rfl, hown2, hb2⟩
          obtain ⟨A2, c2, rfl, hc2, hm2, _⟩ := own_shape hown2
          have r2 := own_rd hown2
          have hown' := (hown.below hb2).below (below_alloc w2 (.cells #[.slice A2 t.length c2] 23))
          have hbk : ∀ kk, v.ownBlock = some kk → kk < wr.heap.size := fun kk hkk => by obtain ⟨vs, h1, _⟩ := hown; exact (own_lt h1 hkk).2
          have hbb : ∀ kk, v.ownBlock = some kk → w.heap.size ≤ kk := fun kk hkk => by obtain ⟨vs, h1, _⟩ := hown; exact (own_lt h1 hkk).1
          obtain ⟨vs, h1, h2⟩ := hown'
          have hA2 : ∀ ad, A2 = some ad → w.heap.size ≤ ad.block ∧ ad.block < (w2.alloc (.cells #[.slice A2 t.length c2] 23)).heap.size ∧ some ad.block ≠ v.ownBlock := fun ad hA => by
            have hl2 := own_lt hown2 (k := ad.block) (by rw [hA]; rfl)
            refine ⟨by have := hb.size; omega, by simp; omega, fun hh => ?_⟩
            have := hbk _ hh.symm
            omega
          have H2 := hid h2
          have HA2 := hid hA2
          clear h2 hA2
          go_wp2_with (at_builtin; refine wpList_app rfl (.tmp 40) (.tmp 42) 50 rfl w.heap.size 23 Try.underlying50 infoR rfl (by decide) v acc.length vs rfl h1 (some ⟨w2.heap.size, 0, none⟩) 1 1 [.slice A2 t.length c2] rfl rfl (rd_box w2 #[.slice A2 t.length c2] 23) (by intro u hu; simp at hu; subst hu; rfl) (by have := Hacc.out; omega) (by have := Hacc.out; omega) (by have := hb.size; have := hb2.size; simp; omega) ?_; intro v3 w3 hin3 hg3 hat3; have hb3 : Below w.heap.size w w3 := (((hb.trans (hb2.mono hb.size)).alloc (by have := hb.size; have := hb2.size; omega) _).grown hg3 (by have := hb.size; have := hb2.size; simp; omega) hbb); have hnew := OwnRows.app H2.out (by have := h1.1; omega) hin3 hg3 hat3 hc2 hm2 (r2.alloc _) HA2.out)
          go_roundw
          case rel => exact ⟨k + 1, q, _, acc ++ [t], by omega, by go_num, rfl, rfl, by simp [Hacc.out], hnew, by rw [HRk.out, hst.out], hb3⟩
          case measure => simp [intOf]; omega
        · have hst := hid (preRow_stop (acc := acc) hlt hg her)
          have HRk := hid hRk
          clear hRk hacc hg
          have her2 : (er != 0) = true := by simpa using her
          go_wp2_with fail
          refine hbt.mono ?_
          rintro e w2 ⟨v2, rfl, hown2, hb2⟩
          go_wp2_with fail
          go_ret3
          rw [HRk.out, hst.out]
          exact ⟨_, rfl, OwnRows.nil _ _ _, hb.trans (hb2.mono hb.size)⟩
      · obtain rfl : k = n := by omega
        have HRk := hid hRk
        clear hRk hacc
        go_wp2_with fail
        go_ret3
        rw [HRk.out, Nat.sub_self, rowGo, preRow_ok, List.append_nil]
        exact ⟨_, rfl, hown, hb⟩
end Go.Proofs.Ytkmeoobbjdbhjaa
