import Derived.Test.YtoceipdkmafagaaWireD
namespace Go.Proofs.Ytoceipdkmafagaa
open Go.RowKit Go.Cov
theorem rputbool_any (b : Bool) (w : World) :
    Calls Try.prog 46 #[.bool b] w fun e w' => ∃ A, e = .returned (.slice A 1 1) ∧ Rd w' A ([tb b].map byt) ∧ Below w.heap.size w w' := by
  cases b
  · go_enter Try.func46, Try.ntmps46
    go_wp2_with fail
    go_ret
    exact ⟨_, rfl, rd_box w #[.int .u8 0] 5, below_alloc w _⟩
  · go_enter Try.func46, Try.ntmps46
    go_wp2_with fail
    go_ret
    exact ⟨_, rfl, rd_box w #[.int .u8 1] 5, below_alloc w _⟩
set_option maxHeartbeats 800000 in
theorem rputnum_any (n : Int) (w : World) :
    Calls Try.prog 31 #[.int .i64 n] w fun e w' => ∃ v, e = .returned v ∧ w'.ownsRow w.heap.size 5 1 v 8 ((be 8 n).map byt) ∧ Below w.heap.size w w' := by
  go_enter Try.func31, Try.ntmps31
  go_wp2_with fail
  go_loopw [3, 4] (fun v i W => ∃ (k : Nat), k ≤ 8 ∧ i = .int .i64 (56 - 8 * (k : Int)) ∧ W.ownsRow w.heap.size 5 1 v k (((be 8 n).take k).map byt) ∧ Below w.heap.size w W) (fun _ i _ => (intOf i + 8).toNat)
  case atStart => exact ⟨0, by omega, rfl, World.ownsRow_nil _ _ _ _, Below.refl _ _⟩
  case round =>
    obtain ⟨k, hk, rfl, hown, hb⟩ := hrel
    obtain ⟨A, c, hv, hkc, hcm⟩ := own_shape hown
    subst hv
    by_cases hlt : k < 8
    · obtain ⟨m, hm, hi⟩ : ∃ m : Nat, Hid (m = 8 - 1 - k) ∧ (56 - 8 * (k : Int)) = ((8 * m : Nat) : Int) := ⟨8 - 1 - k, hid rfl, by omega⟩
      rw [hi]
      obtain ⟨x, hx, ex⟩ : ∃ x : UInt8, Hid (x = bt n m) ∧ n / 2 ^ (8 * m) % 256 = (x.toNat : Int) := ⟨bt n m, hid rfl, (bt_int n m).symm⟩
      have hmin : min (8 * m) 64 = 8 * m := by have := hm.out; omega
      have hi4 := hid hi
      clear hi
      go_wp2_with (at_builtin; refine wpList_app rfl (.tmp 9) (.tmp 14) 22 rfl w.heap.size 5 Try.underlying22 infoB rfl (by decide) (.slice A k c) k _ rfl (hown.alloc _) (some ⟨wr.heap.size, 0, none⟩) 1 1 [byt x] rfl rfl (rd_box wr #[byt x] 5) (by intro u hu; simp at hu; subst hu; rfl) (by omega) (by omega) (by have := hb.size; simp; omega) ?_; intro v6 w6 hin6 hg6 hat6; have hb6 : Below w.heap.size w w6 := ((hb.alloc hb.size _).grown hg6 (by have := hb.size; simp; omega) (by intro j hj; exact (own_lt hown hj).1)))
      go_roundw
      case rel => exact ⟨k + 1, by omega, by have := hm.out; exact congrArg (Value.int .i64) (by omega), by rw [be_get 8 n k hlt, ← hm.out, ← hx.out, List.map_append]; exact hin6, hb6⟩
      case measure => have := hi4.out; simp [intOf]; omega
    · obtain rfl : k = 8 := by omega
      have ht : (be 8 n).take 8 = be 8 n := List.take_of_length_le (by rw [be_length]; omega)
      rw [ht] at hown
      go_wp2_with fail
      go_ret
      exact ⟨_, rfl, hown, hb⟩
end Go.Proofs.Ytoceipdkmafagaa
