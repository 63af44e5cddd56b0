import Derived.Test.YtnkocbdbfkhgmaaDoorCodeB
import Derived.Test.YtnkocbdbfkhgmaaDoorPlain1
import Derived.Test.YtnkocbdbfkhgmaaDoorWires1
/-! code: numbers' bytes -/
namespace Go.Proofs.YtnkocbdbfkhgmaaDoor
open Go.RowKit Go.Cov
/-- numbers' bytes -/
def nsB (ns : List Int) : List UInt8 := ns.flatMap (be 8)
theorem nsB_len (ns : List Int) : (nsB ns).length = 8 * ns.length := by
  induction ns with
  | nil => rfl
  | cons n ns ih => unfold nsB at ih ⊢; rw [List.flatMap_cons, List.length_append, ih, be_length, List.length_cons]; omega
theorem nsB_step (ns : List Int) (k : Nat) (hk : k < ns.length) : nsB (ns.take (k + 1)) = nsB (ns.take k) ++ be 8 ns[k] := by
  unfold nsB; rw [List.take_succ_eq_append_getElem hk, List.flatMap_append]; simp [List.flatMap_cons]
set_option maxHeartbeats 3200000 in
theorem pnums_any {w : World} {base : Nat} {v : Value} {l : List UInt8} (ho : w.ownsRow base 5 1 v l.length (l.map byt)) (hbs : base ≤ w.heap.size) {A : Option Addr} {c : Nat} {ns : List Int} (n : Nat) (hn : ns.length = n) (hr : Rd w A (ns.map (.int .i64))) (hA : ∀ ad, A = some ad → v.ownBlock ≠ some ad.block) (hAl : ∀ ad, A = some ad → ad.block < w.heap.size) (hl : l.length + 8 * n ≤ 1000000000000) :
    Calls Tryd.prog 24 #[v, .slice A n c] w fun e w' => ∃ v', e = .returned v' ∧ w'.ownsRow base 5 1 v' (l ++ nsB ns).length ((l ++ nsB ns).map byt) ∧ Tv v w v' w' := by
  replace hn := hid hn
  go_enter Tryd.func24, Tryd.ntmps24
  go_wp2_with fail
  go_loopw [0, 6, 9] (fun s0 _ i W => ∃ (k : Nat) (vk : Value), k ≤ n ∧ i = .int .i64 k ∧ s0 = vk ∧ W.ownsRow base 5 1 vk (l ++ nsB (ns.take k)).length ((l ++ nsB (ns.take k)).map byt) ∧ Tv v w vk W) (fun _ _ i _ => n - (RowKit.intOf i).toNat)
  case atStart => exact ⟨0, v, by omega, rfl, rfl, by simpa [nsB] using ho, Tv.refl _ _⟩
  case round =>
    obtain ⟨k, vk, hk, rfl, hs0, hW, hT⟩ := hrel
    replace hs0 := hs0.symm
    subst hs0
    by_cases hlt : k < n
    · have i1 : (k : Int) < n := by omega
      have hkl : k < ns.length := by have := hn.out; omega
      obtain ⟨ad, rfl, x0⟩ := (hr.tv hA hT) k (.int .i64 ns[k]) (by simp [hkl])
      obtain ⟨lk, hlk⟩ : ∃ lk, lk = l ++ nsB (ns.take k) := ⟨_, rfl⟩
      have hlen : lk.length ≤ 1000000000000 := by rw [hlk, List.length_append, nsB_len, List.length_take]; have := hn.out; omega
      have HST : Hid (lk ++ be 8 ns[k] = l ++ nsB (ns.take (k + 1))) := by rw [hlk, nsB_step ns k hkl, List.append_assoc]; exact hid rfl
      rw [← hlk] at hW
      clear hlk
      generalize ns[k] = x at x0 HST
      go_wp2_with fail
      refine (putnum_any x _).mono ?_
      rintro e wx ⟨vx, rfl, ownx, hbx⟩
      have hW2 := own_below hW hbx
      have zx : base ≤ wx.heap.size := Nat.le_trans hbs (Nat.le_trans hT.size hbx.size)
      obtain ⟨Ax, cx, rfl, _⟩ := own_shape ownx
      go_wp2_with (at_builtin; refine wpList_app rfl (.tmp 13) (.tmp 15) 26 rfl base 5 Tryd.underlying26 infoB rfl (by decide) vk lk.length (lk.map byt) rfl hW2 Ax 8 cx ((be 8 x).map byt) rfl (by rw [List.length_map, be_length]) (own_rd ownx) (byt_one _) (by omega) (by omega) zx ?_; intro v9 w9 own9 hg9 hat9)
      have T9 := hT.trans ((Tv.of_below hbx).trans (Tv.app hg9 hat9))
      go_roundw
      case rel => exact ⟨k + 1, v9, by omega, by go_num, rfl, by rw [← HST.out, List.length_append, be_length, List.map_append]; exact own9, T9⟩
      case measure => simp [RowKit.intOf]; omega
    · obtain rfl : k = n := by omega
      rw [List.take_of_length_le (by have := hn.out; omega)] at hW
      go_wp2_with fail
      go_ret
      exact ⟨_, rfl, hW, hT⟩
end Go.Proofs.YtnkocbdbfkhgmaaDoor
