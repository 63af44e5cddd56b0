import Derived.Test.YtoceipdkmafagaaWireH
import Derived.WalkSmall
namespace Go.Proofs.Ytoceipdkmafagaa
open Go.RowKit Go.Cov
set_option maxHeartbeats 800000 in
theorem rbytes_any {A : Option Addr} {c : Nat} {l : List UInt8} {w : World} (h : Rd w A (l.map byt)) (hc : l.length ≤ c) (hl : l.length ≤ 140737488351236) (a : Int) :
    Calls Try.prog 60 #[.slice A l.length c, .int .i64 a] w fun e w' => ∃ v, e = .returned (.tuple #[v, .int .i64 (bytesR l a).2.1, .int .i64 (bytesR l a).2.2]) ∧ w'.ownsRow w.heap.size 5 1 v (bytesR l a).1.length ((bytesR l a).1.map byt) ∧ Below w.heap.size w w' := by
  have hs := size_any h hc hl a 65536 65536 rfl
  rcases sizeR_cases l a 65536 with ⟨e, he, hz⟩ | ⟨k, rfl, hk, hm, hz⟩
  · have hne : (e != 0) = true := by rcases he with rfl | rfl | rfl <;> rfl
    have hR : bytesR l a = ([], 0, e) := by rw [bytesR, hz, if_neg (by rcases he with rfl | rfl | rfl <;> decide)]
    rw [hR]
    rw [hz] at hs
    dsimp only at hs ⊢
    clear hR hz
    go_enter Try.func60, Try.ntmps60
    go_wp2_with fail
    refine hs.mono ?_
    rintro e w' ⟨rfl, k, rfl⟩
    go_wp2_with fail
    go_ret3
    exact ⟨_, rfl, World.ownsRow_nil _ _ _ _, below_drewN (Below.refl _ _) k⟩
  · rw [hz] at hs
    dsimp only at hs
    generalize hn : nat ((l.drop k).take 4) = n at hm hs hz
    have e2 := wrap_of ((l.length : Int) - ((k : Int) + 4)) (by omega) (by omega)
    by_cases h2 : (l.length : Int) - (k + 4) < n
    · have hR : bytesR l k = ([], 0, 11) := by rw [bytesR, hz, if_pos rfl, if_pos h2]
      rw [hR]
      dsimp only
      clear hR hz hn
      go_enter Try.func60, Try.ntmps60
      go_wp2_with fail
      refine hs.mono ?_
      rintro e w' ⟨rfl, nd, rfl⟩
      go_wp2_with fail
      go_ret3
      exact ⟨_, rfl, World.ownsRow_nil _ _ _ _, below_drewN (Below.refl _ _) nd⟩
    · have hR : bytesR l k = ((l.drop (k + 4)).take n, (k : Int) + 4 + n, 0) := by
        rw [bytesR, hz, if_pos rfl, if_neg h2]
        rw [show ((k : Int) + 4).toNat = k + 4 by omega]; rfl
      rw [hR]
      dsimp only
      clear hR hz hn
      have e3 := wrap_of ((k : Int) + 4 + n) (by omega) (by omega)
      have hr : Rd w (cutA A c (k + 4) 1) (((l.drop (k + 4)).take n).map byt) := by
        have := (h.cutA (k + 4) 1 (c := c) (by simpa using hc)).take n
        simpa using this
      have hsl := fun W => run_slice_mid (P := Try.prog) Try.underlying22 infoB A l.length c (k + 4) (k + 4 + n) .i64 .i64 ((k : Int) + 4) ((k : Int) + 4 + (n : Int)) (by omega) (by omega) (by omega) (by omega) W
      have hdl : ((l.drop (k + 4)).take n).length = n := by simp; omega
      rw [show k + 4 + n - (k + 4) = n by omega] at hsl
      revert hr hsl hdl
      generalize cutA A c (k + 4) 1 = B
      generalize (l.drop (k + 4)).take n = m
      intro hr hsl hdl
      subst hdl
      go_enter Try.func60, Try.ntmps60
      go_wp2_with fail
      refine hs.mono ?_
      rintro e w' ⟨rfl, nd, hw1⟩
      have hb1 : Below w.heap.size w w' := by subst hw1; exact below_drewN (Below.refl _ _) nd
      have hz1 : w'.heap.size = w.heap.size := by subst hw1; rfl
      have hr1 := hr.below hb1
      have Hz1 := hid hz1
      clear hw1 hz1
      have hown : (w'.alloc (.cells #[] 5)).ownsRow w'.heap.size 5 1 (.slice (some ⟨w'.heap.size, 0, none⟩) 0 0) 0 [] := World.ownsRow_made w' #[] 0 (Nat.le_refl _) (by simp [maxLen]) rfl
      go_wp2_with (at_builtin; refine wpList_app rfl (.tmp 26) (.tmp 32) 22 rfl w'.heap.size 5 Try.underlying22 infoB rfl (by decide) (.slice (some ⟨w'.heap.size, 0, none⟩) 0 0) 0 _ rfl hown B m.length _ (m.map byt) rfl (by simp) (hr1.alloc _) (byt_one m) (by omega) (by omega) (by simp) ?_; intro v2 w2 hin2 hg2 hat2; simp only [Nat.zero_add, List.nil_append] at hin2; have hb2 : Below w'.heap.size w' w2 := ((below_alloc w' _).grown hg2 (by simp) (by intro k hk; simp [Value.ownBlock] at hk; omega)))
      go_ret3
      rw [Hz1.out] at hin2 hb2
      exact ⟨_, rfl, hin2, hb1.trans hb2⟩
end Go.Proofs.Ytoceipdkmafagaa
