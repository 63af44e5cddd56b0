import Derived.Test.YtgkdnhbhmebmeaaDoorSeaD
namespace Go.Proofs.YtgkdnhbhmebmeaaDoor
open Go.RowKit Go.Cov
theorem ne_byte {a b : UInt8} (h : a ≠ b) : ((a.toNat : Int) != (b.toNat : Int)) = true := by
  rw [bne_iff_ne]
  intro he
  apply h
  have : a.toNat = b.toNat := by omega
  exact UInt8.toNat_inj.1 this
set_option maxRecDepth 100000 in
set_option maxHeartbeats 1000000 in
theorem ropen_any {A : Option Addr} {c : Nat} {l : List UInt8} {w : World} (h : Rd w A (l.map byt)) (hc : l.length ≤ c) (hl : l.length ≤ 140737488351232) :
    Calls Tryd.prog 34 #[.slice A l.length c] w fun e w' => ∃ v, e = .returned (.tuple #[v, .int .i64 (openE l)]) ∧ w'.ownsRow w.heap.size 5 1 v (openL l).length ((openL l).map byt) ∧ Below w.heap.size w w' := by
  by_cases h4 : l.length < 4
  · have e1 : openL l = [] := by rw [openL, if_pos h4]
    have e2 : openE l = 11 := by rw [openE, if_pos h4]
    rw [e1, e2]
    clear e1 e2
    go_enter Tryd.func34, Tryd.ntmps34
    go_wp2_with fail
    go_ret2
    exact ⟨_, rfl, World.ownsRow_nil _ _ _ _, Below.refl _ _⟩
  · obtain ⟨A1, hr1, hsl⟩ := cut4 h hc (by omega)
    obtain ⟨x0, x1, x2, x3, m, rfl⟩ : ∃ x0 x1 x2 x3 m, l = x0 :: x1 :: x2 :: x3 :: m := by
      match l, h4 with
      | x0 :: x1 :: x2 :: x3 :: m, _ => exact ⟨_, _, _, _, _, rfl⟩
      | [], h => simp at h
      | [_], h => simp at h
      | [_, _], h => simp at h
      | [_, _, _], h => simp at h
    obtain ⟨ad, rfl, hc0⟩ := h 0 (byt x0) rfl
    obtain ⟨_, hh1, hc1⟩ := h 1 (byt x1) rfl
    obtain ⟨_, hh2, hc2⟩ := h 2 (byt x2) rfl
    obtain ⟨_, hh3, hc3⟩ := h 3 (byt x3) rfl
    cases hh1; cases hh2; cases hh3
    have hd : List.drop 4 (x0 :: x1 :: x2 :: x3 :: m) = m := rfl
    rw [hd] at hr1 hsl
    have g3 := sum_byte m 0 (by omega)
    have g2 := sum_byte m 1 (by omega)
    have g1 := sum_byte m 2 (by omega)
    have g0 := sum_byte m 3 (by omega)
    simp only [Nat.mul_zero, Nat.sub_zero, Nat.mul_one, Nat.reduceMul, Nat.reduceSub, Int.reducePow, Int.ediv_one] at g0 g1 g2 g3
    replace g3 : ((Crc.crc m).toNat : Int) / 16777216 = ((Crc.byteOf (Crc.crc m) 3).toNat : Int) := by have := (Crc.crc m).isLt; omega
    have hseq : sealed m = [Crc.byteOf (Crc.crc m) 3, Crc.byteOf (Crc.crc m) 2, Crc.byteOf (Crc.crc m) 1, Crc.byteOf (Crc.crc m) 0] ++ m := rfl
    have hE : openE (x0 :: x1 :: x2 :: x3 :: m) = if sealed m = x0 :: x1 :: x2 :: x3 :: m then 0 else 21 := by rw [openE, if_neg h4]; rfl
    have hL : openL (x0 :: x1 :: x2 :: x3 :: m) = if sealed m = x0 :: x1 :: x2 :: x3 :: m then m else [] := by rw [openL, if_neg h4]; rfl
    rw [hE, hL]
    clear hE hL hd
    rw [hseq]
    clear hseq
    generalize Crc.byteOf (Crc.crc m) 3 = b3 at g3 ⊢
    generalize Crc.byteOf (Crc.crc m) 2 = b2 at g2 ⊢
    generalize Crc.byteOf (Crc.crc m) 1 = b1 at g1 ⊢
    generalize Crc.byteOf (Crc.crc m) 0 = b0 at g0 ⊢
    have hl4 : (4 : Nat) ≤ (x0 :: x1 :: x2 :: x3 :: m).length := by omega
    have hlm : m.length ≤ 140737488351232 := by simp only [List.length_cons] at hl; omega
    simp only [byt] at hc0 hc1 hc2 hc3
    have hx : ([b3, b2, b1, b0] ++ m = x0 :: x1 :: x2 :: x3 :: m) ↔ (b3 = x0 ∧ b2 = x1 ∧ b1 = x2 ∧ b0 = x3) := by simp
    generalize (x0 :: x1 :: x2 :: x3 :: m).length = n at hc hl hsl hl4 h4 ⊢
    clear h h4
    have hadd : ad.add 0 = ad := by simp [Addr.add]
    rw [hadd] at hc0
    clear hadd
    replace hc1 : w.cell? ⟨ad.block, ad.off + 1, none⟩ = some (.int .u8 x1.toNat) := hc1
    replace hc2 : w.cell? ⟨ad.block, ad.off + 2, none⟩ = some (.int .u8 x2.toNat) := hc2
    replace hc3 : w.cell? ⟨ad.block, ad.off + 3, none⟩ = some (.int .u8 x3.toNat) := hc3
    by_cases e0 : b3 = x0
    · by_cases e1 : b2 = x1
      · by_cases e2 : b1 = x2
        · by_cases e3 : b0 = x3
          · have hcond := hx.2 ⟨e0, e1, e2, e3⟩
            rw [if_pos hcond, if_pos hcond]
            clear hcond hx
            subst e0 e1 e2 e3
            have hown : (w.alloc (.cells #[] 5)).ownsRow w.heap.size 5 1 (.slice (some ⟨w.heap.size, 0, none⟩) 0 0) 0 [] := World.ownsRow_made w #[] 0 (Nat.le_refl _) (by simp [maxLen]) rfl
            go_enter Tryd.func34, Tryd.ntmps34
            go_wp2_with fail
            refine (rsum_any hr1 (by omega)).mono ?_
            rintro e w1 ⟨rfl, rfl⟩
            go_wp2_with (at_builtin; refine wpList_app rfl (.tmp 44) (.tmp 46) 23 rfl w.heap.size 5 Tryd.underlying23 infoB rfl (by decide) (.slice (some ⟨w.heap.size, 0, none⟩) 0 0) 0 _ rfl hown A1 m.length _ (m.map byt) rfl (by simp) (hr1.alloc _) (byt_one m) (by omega) (by omega) (by simp) ?_; intro v4 w4 hin4 hg4 hat4)
            go_ret2
            refine ⟨_, rfl, ?_, (((Below.refl _ _).alloc (Nat.le_refl _) _).grown hg4 (by simp) (by intro k hk; simp [Value.ownBlock] at hk; omega))⟩
            simpa using hin4
          · have hcond : ¬ ([b3, b2, b1, b0] ++ m = x0 :: x1 :: x2 :: x3 :: m) := fun hh => e3 (hx.1 hh).2.2.2
            rw [if_neg hcond, if_neg hcond]
            clear hcond hx
            have n3 := ne_byte e3
            subst e0 e1 e2
            go_enter Tryd.func34, Tryd.ntmps34
            go_wp2_with fail
            refine (rsum_any hr1 (by omega)).mono ?_
            rintro e w1 ⟨rfl, rfl⟩
            go_wp2_with fail
            go_ret2
            exact ⟨_, rfl, World.ownsRow_nil _ _ _ _, Below.refl _ _⟩
        · have hcond : ¬ ([b3, b2, b1, b0] ++ m = x0 :: x1 :: x2 :: x3 :: m) := fun hh => e2 (hx.1 hh).2.2.1
          rw [if_neg hcond, if_neg hcond]
          clear hcond hx
          have n2 := ne_byte e2
          subst e0 e1
          go_enter Tryd.func34, Tryd.ntmps34
          go_wp2_with fail
          refine (rsum_any hr1 (by omega)).mono ?_
          rintro e w1 ⟨rfl, rfl⟩
          go_wp2_with fail
          go_ret2
          exact ⟨_, rfl, World.ownsRow_nil _ _ _ _, Below.refl _ _⟩
      · have hcond : ¬ ([b3, b2, b1, b0] ++ m = x0 :: x1 :: x2 :: x3 :: m) := fun hh => e1 (hx.1 hh).2.1
        rw [if_neg hcond, if_neg hcond]
        clear hcond hx
        have n1 := ne_byte e1
        subst e0
        go_enter Tryd.func34, Tryd.ntmps34
        go_wp2_with fail
        refine (rsum_any hr1 (by omega)).mono ?_
        rintro e w1 ⟨rfl, rfl⟩
        go_wp2_with fail
        go_ret2
        exact ⟨_, rfl, World.ownsRow_nil _ _ _ _, Below.refl _ _⟩
    · have hcond : ¬ ([b3, b2, b1, b0] ++ m = x0 :: x1 :: x2 :: x3 :: m) := fun hh => e0 (hx.1 hh).1
      rw [if_neg hcond, if_neg hcond]
      clear hcond hx
      have n0 := ne_byte e0
      go_enter Tryd.func34, Tryd.ntmps34
      go_wp2_with fail
      refine (rsum_any hr1 (by omega)).mono ?_
      rintro e w1 ⟨rfl, rfl⟩
      go_wp2_with fail
      go_ret2
      exact ⟨_, rfl, World.ownsRow_nil _ _ _ _, Below.refl _ _⟩
end Go.Proofs.YtgkdnhbhmebmeaaDoor
