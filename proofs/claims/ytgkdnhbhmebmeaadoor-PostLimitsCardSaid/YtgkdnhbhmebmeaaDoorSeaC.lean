import Derived.Test.YtgkdnhbhmebmeaaDoorSeaB
import Derived.WalkSpells
namespace Go.Proofs.YtgkdnhbhmebmeaaDoor
open Go.RowKit Go.Cov
set_option maxHeartbeats 400000 in
theorem rseal_any {A : Option Addr} {c : Nat} {l : List UInt8} {w : World} (h : Rd w A (l.map byt)) (hl : l.length ≤ 140737488351232) :
    Calls Tryd.prog 25 #[.slice A l.length c] w fun e w' => ∃ v, e = .returned v ∧ w'.ownsRow w.heap.size 5 1 v (4 + l.length) ((sumBytes l ++ l).map byt) ∧ Below w.heap.size w w' := by
  go_enter Tryd.func25, Tryd.ntmps25
  go_wp2_with fail
  refine (rsum_any h (by omega)).mono ?_
  rintro e w1 ⟨rfl, rfl⟩
  have h3 := sum_byte l 0 (by omega)
  have h2 := sum_byte l 1 (by omega)
  have h1 := sum_byte l 2 (by omega)
  have h0 := sum_byte l 3 (by omega)
  simp only [Nat.mul_zero, Nat.sub_zero, Nat.mul_one, Nat.reduceMul, Nat.reduceSub, Int.reducePow, Int.ediv_one] at h0 h1 h2 h3
  replace h3 : ((Crc.crc l).toNat : Int) / 16777216 = ((Crc.byteOf (Crc.crc l) 3).toNat : Int) := by have := (Crc.crc l).isLt; omega
  have hs := hid (show sumBytes l = [Crc.byteOf (Crc.crc l) 3, Crc.byteOf (Crc.crc l) 2, Crc.byteOf (Crc.crc l) 1, Crc.byteOf (Crc.crc l) 0] from rfl)
  revert hs
  generalize Crc.byteOf (Crc.crc l) 3 = b3 at h3 ⊢
  generalize Crc.byteOf (Crc.crc l) 2 = b2 at h2 ⊢
  generalize Crc.byteOf (Crc.crc l) 1 = b1 at h1 ⊢
  generalize Crc.byteOf (Crc.crc l) 0 = b0 at h0 ⊢
  intro hs
  have hown : (w.alloc (.cells #[byt b3, byt b2, byt b1, byt b0] 5)).ownsRow w.heap.size 5 1 (.slice (some ⟨w.heap.size, 0, none⟩) 4 4) 4 [byt b3, byt b2, byt b1, byt b0] :=
    World.ownsRow_lit w #[byt b3, byt b2, byt b1, byt b0] 4 (Nat.le_refl _) (by simp [maxLen]) rfl
  go_wp2_with (at_builtin; refine wpList_app rfl (.tmp 17) (.tmp 18) 23 rfl w.heap.size 5 Tryd.underlying23 infoB rfl (by decide) (.slice (some ⟨w.heap.size, 0, none⟩) 4 4) 4 _ rfl hown A l.length c (l.map byt) rfl (by simp) (h.alloc _) (byt_one l) (by omega) (by omega) (by simp) ?_; intro v4 w4 hin4 hg4 hat4)
  go_ret
  refine ⟨_, rfl, ?_, (((Below.refl _ _).alloc (Nat.le_refl _) _).grown hg4 (by simp) (by intro k hk; simp [Value.ownBlock] at hk; omega))⟩
  rw [List.map_append, hs.out]
  exact hin4
theorem equal_yes {A B : Option Addr} {c d : Nat} {l : List UInt8} {w : World} (h : Rd w A (l.map byt)) (h' : Rd w B (l.map byt)) :
    Calls Tryd.prog 51 #[.slice A l.length c, .slice B l.length d] w fun e w' => e = .returned (.bool true) ∧ w = w' := by
  have c1 := conv_bs (P := Tryd.prog) Tryd.underlying23 Tryd.underlying5 Tryd.underlying9 h c
  have c2 := conv_bs (P := Tryd.prog) Tryd.underlying23 Tryd.underlying5 Tryd.underlying9 h' d
  generalize str l = s at c1 c2
  go_enter Tryd.func51, Tryd.ntmps51
  go_wp2_with fail
  go_ret
  exact ⟨by simp, rfl⟩
theorem equal_no {A B : Option Addr} {c d : Nat} {l l' : List UInt8} {w : World} (h : Rd w A (l.map byt)) (h' : Rd w B (l'.map byt)) (hne : l ≠ l') :
    Calls Tryd.prog 51 #[.slice A l.length c, .slice B l'.length d] w fun e w' => e = .returned (.bool false) ∧ w = w' := by
  have c1 := conv_bs (P := Tryd.prog) Tryd.underlying23 Tryd.underlying5 Tryd.underlying9 h c
  have c2 := conv_bs (P := Tryd.prog) Tryd.underlying23 Tryd.underlying5 Tryd.underlying9 h' d
  have hb : ((str l).toList == (str l').toList) = false := by rw [toList_str, toList_str]; simpa using hne
  generalize str l = s at c1 hb
  generalize str l' = s' at c2 hb
  go_enter Tryd.func51, Tryd.ntmps51
  go_wp2_with fail
  go_ret
  exact ⟨by simp, rfl⟩
end Go.Proofs.YtgkdnhbhmebmeaaDoor
