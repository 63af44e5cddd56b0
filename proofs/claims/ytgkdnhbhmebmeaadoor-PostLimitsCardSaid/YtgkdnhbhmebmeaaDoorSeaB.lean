import Derived.Test.YtgkdnhbhmebmeaaDoorSeaA
namespace Go.Proofs.YtgkdnhbhmebmeaaDoor
open Go.RowKit Go.Cov
def sumBytes (l : List UInt8) : List UInt8 := [Crc.byteOf (Crc.crc l) 3, Crc.byteOf (Crc.crc l) 2, Crc.byteOf (Crc.crc l) 1, Crc.byteOf (Crc.crc l) 0]
theorem byteOf_int (s : BitVec 32) (k : Nat) : ((Crc.byteOf s k).toNat : Int) = (s.toNat : Int) / 2 ^ (8 * k) % 256 := by
  unfold Crc.byteOf
  have e : (UInt8.ofNat ((s >>> (8 * k)).toNat % 256)).toNat = s.toNat / 2 ^ (8 * k) % 256 := by
    rw [BitVec.toNat_ushiftRight, Nat.shiftRight_eq_div_pow]; simp
  rw [e]
  simp
theorem sum_byte (l : List UInt8) (j : Nat) (hj : j < 4) : ((Crc.crc l).toNat : Int) / 2 ^ (24 - 8 * j) % 256 = ((Crc.byteOf (Crc.crc l) (3 - j)).toNat : Int) := by
  rw [byteOf_int, show 8 * (3 - j) = 24 - 8 * j by omega]
theorem take_sum (l : List UInt8) (j : Nat) (hj : j < 4) : ((sumBytes l).take (j + 1)).map byt = ((sumBytes l).take j).map byt ++ [byt (Crc.byteOf (Crc.crc l) (3 - j))] := by
  match j, hj with
  | 0, _ => rfl
  | 1, _ => rfl
  | 2, _ => rfl
  | 3, _ => rfl
set_option maxHeartbeats 400000 in
theorem seal_any {A : Option Addr} {c : Nat} {l : List UInt8} {w : World} (h : Rd w A (l.map byt)) (hl : l.length ≤ 140737488351232) (ht : Tab w) :
    Calls Tryd.prog 21 #[.slice A l.length c] w fun e w' => ∃ v, e = .returned v ∧ w'.ownsRow w.heap.size 5 1 v (4 + l.length) ((sumBytes l ++ l).map byt) ∧ Below w.heap.size w w' := by
  go_enter Tryd.func21, Tryd.ntmps21
  go_wp2_with fail
  refine (sum_any h (by omega) ht).mono ?_
  rintro e w1 ⟨rfl, rfl⟩
  go_wp2_with (at_make; refine wpList_mk0 rfl _ _ 23 rfl w.heap.size 5 Tryd.underlying23 infoB (4 + l.length) rfl rfl (by omega) (by omega) (by omega) (Nat.le_refl _) ?_; intro w2 hown2 hg2)
  go_loopg [4, 5] 4 (fun k v i W => ∃ j : Nat, k = 4 - j ∧ j ≤ 4 ∧ i = .int .i64 (24 - 8 * (j : Int)) ∧ W.ownsRow w.heap.size 5 1 v j (((sumBytes l).take j).map byt) ∧ Below w.heap.size w W)
  case atStart => exact ⟨0, rfl, by omega, rfl, hown2, below_of_grown hg2⟩
  case round =>
    obtain ⟨j, rfl, hj, rfl, hown, hbel⟩ := hrel
    by_cases hj4 : j < 4
    · have hb := sum_byte l j hj4
      have hs := hid (take_sum l j hj4)
      revert hs
      generalize Crc.byteOf (Crc.crc l) (3 - j) = b at hb ⊢
      intro hs
      go_wp2_with (at_builtin; refine wpList_app rfl _ _ 23 rfl w.heap.size 5 Tryd.underlying23 infoB rfl (by decide) _ _ _ rfl (hown.alloc _) _ 1 1 [byt b] rfl rfl (rd_box _ _ _) (by intro u hu; simp at hu; subst hu; rfl) (by omega) (by omega) (by have := hbel.size; simp; omega) ?_; intro v4 w4 hin4 hg4 hat4)
      go_roundg (4 - (j + 1))
      case rel => exact ⟨j + 1, rfl, by omega, by go_num, by rw [hs.out]; exact hin4, (hbel.alloc hbel.size _).grown hg4 (by have := hbel.size; simp; omega) (by intro k hk; exact (own_lt hown hk).1)⟩
      case measure => omega
    · obtain rfl : j = 4 := by omega
      have hr2 : Rd wr A (l.map byt) := h.below hbel
      go_wp2_with (at_builtin; refine wpList_app rfl (.tmp 23) (.tmp 24) 23 rfl w.heap.size 5 Tryd.underlying23 infoB rfl (by decide) _ _ _ rfl hown A l.length c (l.map byt) rfl (by simp) hr2 (byt_one l) (by omega) (by omega) hbel.size ?_; intro v4 w4 hin4 hg4 hat4)
      go_ret
      refine ⟨_, rfl, ?_, hbel.grown hg4 hbel.size (by intro k hk; exact (own_lt hown hk).1)⟩
      have e : (sumBytes l).take 4 = sumBytes l := rfl
      rw [e] at hin4
      rw [List.map_append]
      exact hin4
end Go.Proofs.YtgkdnhbhmebmeaaDoor
