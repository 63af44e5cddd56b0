import Derived.Test.YtkmeoobbjdbhjaaWireK
namespace Go.Proofs.Ytkmeoobbjdbhjaa
open Go.RowKit Go.Cov
theorem infoR : (Try.prog.info? 23).map (fun i => (i.zero, i.size, i.bytes)) = some (some (.slice none 0 0), 1, 24) := by kernel_rfl
/-- what holds at each round's head of 'Row' -/
def RowAt (l : List UInt8) (R : List (List UInt8) × Int × Int) (base n k : Nat) (p er : Int) (v : Value) (W : World) : Prop :=
  (er = 0 ∧ ∃ acc : List (List UInt8), acc.length = k ∧ OwnRows W base 23 v acc ∧ R = preRow acc (rowGo l (n - k) p)) ∨ (er ≠ 0 ∧ R = ([], 0, er))
set_option maxHeartbeats 1600000 in
theorem row_any {A : Option Addr} {c : Nat} {l : List UInt8} {w : World} (h : Rd w A (l.map byt)) (hc : l.length ≤ c) (hl : l.length ≤ 140737488351236) (a : Int) :
    Calls Try.prog 33 #[.slice A l.length c, .int .i64 a] w fun e w' => ∃ v, e = .returned (.tuple #[v, .int .i64 (rowR l a).2.1, .int .i64 (rowR l a).2.2]) ∧ OwnRows w' w.heap.size 23 v (rowR l a).1 ∧ Below w.heap.size w w' := by
  have hs := sized_any h hc hl a 1024 1024 rfl
  obtain ⟨n, p0, er0, hz, hn, hR⟩ : ∃ (n : Nat) (p0 er0 : Int), sizeR l a 1024 = ((n : Int), p0, er0) ∧ n ≤ 1024 ∧ (er0 = 0 ∧ rowR l a = rowGo l n p0 ∨ er0 ≠ 0 ∧ n = 0 ∧ rowR l a = ([], 0, er0)) := by
    rcases sizeR_cases l a 1024 with ⟨e, he, hz⟩ | ⟨k, rfl, hk, hm, hz⟩
    · have he0 : e ≠ 0 := by rcases he with rfl | rfl | rfl <;> decide
      exact ⟨0, 0, e, hz, by omega, .inr ⟨he0, rfl, by rw [rowR, hz, if_neg he0]⟩⟩
    · exact ⟨_, _, _, hz, hm, .inl ⟨rfl, by rw [rowR, hz]; rfl⟩⟩
  rw [hz] at hs
  dsimp only at hs
  generalize rowR l a = R at hR ⊢
  clear hz
  rcases hR with ⟨he0, hR⟩ | ⟨he0, hn0, hR⟩
  · subst he0
    have HR := hid hR
    clear hR
    go_enter Try.func33, Try.ntmps33
    go_wp2_with fail
    refine hs.mono ?_
    rintro e w' ⟨rfl, rfl⟩
    go_wp2_with fail
    go_loopw [8, 9, 10, 11] (fun p er v i W => ∃ (k : Nat) (p' er' : Int) (v' : Value), k ≤ n ∧ i = .int .i64 k ∧ p = .int .i64 p' ∧ er = .int .i64 er' ∧ v' = v ∧ RowAt l R w.heap.size n k p' er' v' W ∧ Below w.heap.size w W) (fun _ _ _ i _ => n - (intOf i).toNat)
    case atStart => exact ⟨0, p0, 0, _, Nat.zero_le _, rfl, rfl, rfl, rfl, .inl ⟨rfl, [], rfl, OwnRows.nil _ _ _, by rw [HR.out, Nat.sub_zero, rowGo_pre]⟩, Below.refl _ _⟩
    case round =>
      obtain ⟨k, p, er, v, hk, rfl, rfl, rfl, rfl, hat, hb⟩ := hrel
      rcases hat with ⟨rfl, acc, hacc, hown, hRk⟩ | ⟨her, hRe⟩
      · by_cases hlt : k < n
        · have hbt := bytes_any (h.below hb) hc hl p
          generalize hg : bytesR l p = g at hbt
          obtain ⟨t, q, er⟩ := g
          dsimp only at hbt
          by_cases her : er = 0
          · subst her
            have hst := hid (preRow_step (acc := acc) hlt hg)
            have HRk := hid hRk
            have Hacc := hid hacc
            clear hRk hacc hg
            go_wp2_with fail
            refine hbt.mono ?_
            rintro e w2 ⟨v2, rfl, hown2, hb2⟩
            obtain ⟨A2, c2, rfl, hc2, hm2, _⟩ := own_shape hown2
            have r2 := own_rd hown2
            have hown' := (hown.below hb2).below (below_alloc w2 (.cells #[.slice A2 t.length c2] 23))
            have hbk : ∀ kk, v.ownBlock = some kk → kk < wr.heap.size := fun kk hkk => by obtain ⟨vs, h1, _⟩ := hown; exact (own_lt h1 hkk).2
            have hbb : ∀ kk, v.ownBlock = some kk → w.heap.size ≤ kk := fun kk hkk => by obtain ⟨vs, h1, _⟩ := hown; exact (own_lt h1 hkk).1
            obtain ⟨vs, h1, h2⟩ := hown'
            have hA2 : ∀ ad, A2 = some ad → w.heap.size ≤ ad.block ∧ ad.block < (w2.alloc (.cells #[.slice A2 t.length c2] 23)).heap.size ∧ some ad.block ≠ v.ownBlock := fun ad hA => by
              have hl2 := own_lt hown2 (k := ad.block) (by rw [hA]; rfl)
              refine ⟨by have := hb.size; omega, by simp; omega, fun hh => ?_⟩
              have := hbk _ hh.symm
              omega
            have H2 := hid h2
            have HA2 := hid hA2
            clear h2 hA2
            go_wp2_with (at_builtin; refine wpList_app rfl (.tmp 38) (.tmp 40) 50 rfl w.heap.size 23 Try.underlying50 infoR rfl (by decide) v acc.length vs rfl h1 (some ⟨w2.heap.size, 0, none⟩) 1 1 [.slice A2 t.length c2] rfl rfl (rd_box w2 #[.slice A2 t.length c2] 23) (by intro u hu; simp at hu; subst hu; rfl) (by have := Hacc.out; omega) (by have := Hacc.out; omega) (by have := hb.size; have := hb2.size; simp; omega) ?_; intro v3 w3 hin3 hg3 hat3; have hb3 : Below w.heap.size w w3 := (((hb.trans (hb2.mono hb.size)).alloc (by have := hb.size; have := hb2.size; omega) _).grown hg3 (by have := hb.size; have := hb2.size; simp; omega) hbb); have hnew := OwnRows.app H2.out (by have := h1.1; omega) hin3 hg3 hat3 hc2 hm2 (r2.alloc _) HA2.out)
            go_roundw
            case rel => exact ⟨k + 1, q, 0, _, by omega, by go_num, rfl, rfl, rfl, .inl ⟨rfl, acc ++ [t], by simp [Hacc.out], hnew, by rw [HRk.out, hst.out]⟩, hb3⟩
            case measure => simp [intOf]; omega
          · have hst := hid (preRow_stop (acc := acc) hlt hg her)
            have HRk := hid hRk
            have Hacc := hid hacc
            clear hRk hacc hg
            have her2 : (er == 0) = false := by simpa using her
            go_wp2_with fail
            refine hbt.mono ?_
            rintro e w2 ⟨v2, rfl, hown2, hb2⟩
            go_wp2_with fail
            go_roundw
            case rel => exact ⟨k + 1, q, er, _, by omega, by go_num, rfl, rfl, rfl, .inr ⟨her, by rw [HRk.out, hst.out]⟩, hb.trans (hb2.mono hb.size)⟩
            case measure => simp [intOf]; omega
        · obtain rfl : k = n := by omega
          have HRk := hid hRk
          clear hRk hacc
          go_wp2_with fail
          go_ret3
          rw [HRk.out, Nat.sub_self, rowGo, preRow_ok, List.append_nil]
          exact ⟨_, rfl, hown, hb⟩
      · have her2 : (er == 0) = false := by simpa using her
        have her3 : (er != 0) = true := by simpa using her
        have HRe := hid hRe
        clear hRe
        by_cases hlt : k < n
        · go_wp2_with fail
          go_ret3
          rw [HRe.out]
          exact ⟨_, rfl, OwnRows.nil _ _ _, hb⟩
        · go_wp2_with fail
          go_ret3
          rw [HRe.out]
          exact ⟨_, rfl, OwnRows.nil _ _ _, hb⟩
  · subst hn0
    have HR := hid hR
    clear hR
    have her3 : (er0 != 0) = true := by simpa using he0
    go_enter Try.func33, Try.ntmps33
    go_wp2_with fail
    refine hs.mono ?_
    rintro e w' ⟨rfl, rfl⟩
    go_wp2_with fail
    go_loopw [8, 9, 10, 11] (fun p er v i W => i = .int .i64 0 ∧ er = .int .i64 er0 ∧ W = w) (fun _ _ _ i _ => 0)
    case atStart => exact ⟨rfl, rfl, rfl⟩
    case round =>
      obtain ⟨rfl, rfl, rfl⟩ := hrel
      go_wp2_with fail
      go_ret3
      rw [HR.out]
      exact ⟨_, rfl, OwnRows.nil _ _ _, Below.refl _ _⟩
end Go.Proofs.Ytkmeoobbjdbhjaa
