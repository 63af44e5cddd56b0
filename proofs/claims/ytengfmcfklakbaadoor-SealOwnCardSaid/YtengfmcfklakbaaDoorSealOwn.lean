import Derived.Test.YtengfmcfklakbaaDoorSealF
namespace Go.Proofs.YtengfmcfklakbaaDoor
open Go.RowKit Go.Cov
theorem own_crc (l : List UInt8) : ((Crc.crc (l ++ [Crc.byteOf (Crc.crc l) 0, Crc.byteOf (Crc.crc l) 1, Crc.byteOf (Crc.crc l) 2, Crc.byteOf (Crc.crc l) 3])).toNat : Int) = 1214729159 := by
  rw [Crc.crc_own]; rfl
set_option maxHeartbeats 800000 in
theorem own_law {A : Option Addr} {c : Nat} {l : List UInt8} {w : World} (h : Rd w A (l.map byt)) (hl : l.length ≤ 140737488351232) (ht : Tab w) :
    Calls Tryd.prog 7 #[.slice A l.length c] w fun e w' => e = .returned (.bool true) ∧ Below w.heap.size w w' := by
  go_enter Tryd.func7, Tryd.ntmps7
  go_wp2_with fail
  refine (head_any ht).mono ?_
  rintro e w1 ⟨rfl, hb1⟩
  have ht1 := ht.below hb1
  have h1 := h.below hb1
  go_wp2_with fail
  refine (sum_any h1 (by omega) ht1).mono ?_
  rintro e w2 ⟨rfl, rfl⟩
  have g3 := sum_byte l 0 (by omega)
  have g2 := sum_byte l 1 (by omega)
  have g1 := sum_byte l 2 (by omega)
  have g0 := sum_byte l 3 (by omega)
  simp only [Nat.mul_zero, Nat.sub_zero, Nat.mul_one, Nat.reduceMul, Nat.reduceSub, Int.reducePow, Int.ediv_one] at g0 g1 g2 g3
  replace g3 : ((Crc.crc l).toNat : Int) / 16777216 = ((Crc.byteOf (Crc.crc l) 3).toNat : Int) := by have := (Crc.crc l).isLt; omega
  have hs := hid (own_crc l)
  revert hs
  generalize Crc.byteOf (Crc.crc l) 3 = b3 at g3 ⊢
  generalize Crc.byteOf (Crc.crc l) 2 = b2 at g2 ⊢
  generalize Crc.byteOf (Crc.crc l) 1 = b1 at g1 ⊢
  generalize Crc.byteOf (Crc.crc l) 0 = b0 at g0 ⊢
  intro hs
  have hown : (w1.alloc (.cells #[] 5)).ownsRow w1.heap.size 5 1 (.slice (some ⟨w1.heap.size, 0, none⟩) 0 0) 0 [] := World.ownsRow_made w1 #[] 0 (Nat.le_refl _) (by simp [maxLen]) rfl
  go_wp2_with (first
    | (at_builtin; refine wpList_app rfl (.tmp 10) (.tmp 11) 22 rfl w1.heap.size 5 Tryd.underlying22 info5 rfl (by decide) (.slice (some ⟨w1.heap.size, 0, none⟩) 0 0) 0 _ rfl hown A l.length c (l.map byt) rfl (by simp) (h1.alloc _) (byt_one l) (by omega) (by omega) (by simp) ?_; intro v4 w4 hin4 hg4 hat4; simp only [Nat.zero_add, List.nil_append] at hin4; have hb4 : Below w1.heap.size w1 w4 := ((below_alloc w1 _).grown hg4 (by simp) (by intro k hk; simp [Value.ownBlock] at hk; omega)))
    | (at_builtin; refine wpList_app rfl (.tmp 12) (.tmp 24) 22 rfl w1.heap.size 5 Tryd.underlying22 info5 rfl (by decide) v4 l.length _ rfl (hin4.alloc _) (some ⟨w4.heap.size, 0, none⟩) 4 4 [byt b0, byt b1, byt b2, byt b3] rfl rfl (rd_box w4 #[byt b0, byt b1, byt b2, byt b3] 5) (by intro u hu; simp at hu; rcases hu with rfl | rfl | rfl | rfl <;> rfl) (by omega) (by omega) (by have := hb4.size; simp; omega) ?_; intro v6 w6 hin6 hg6 hat6; have hb6 : Below w1.heap.size w1 w6 := ((hb4.alloc hb4.size _).grown hg6 (by have := hb4.size; simp; omega) (by intro k hk; exact (own_lt hin4 hk).1)); obtain ⟨A6, c6, hv6, _⟩ := own_shape hin6; subst hv6))
  have hr6 : Rd w6 A6 ((l ++ [b0, b1, b2, b3]).map byt) := by
    have := own_rd hin6
    simpa using this
  have hlen : l.length + 4 = (l ++ [b0, b1, b2, b3]).length := by simp
  rw [hlen]
  refine (sum_any hr6 (by simp; omega) (ht1.below hb6)).mono ?_
  rw [hs.out]
  rintro e w7 ⟨rfl, rfl⟩
  clear hlen
  go_wp2_with fail
  go_ret
  exact ⟨rfl, hb1.trans (hb6.mono hb1.size)⟩
end Go.Proofs.YtengfmcfklakbaaDoor
