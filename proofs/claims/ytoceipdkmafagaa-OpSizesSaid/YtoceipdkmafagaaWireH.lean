import Derived.Test.YtoceipdkmafagaaWireG
namespace Go.Proofs.Ytoceipdkmafagaa
open Go.RowKit Go.Cov
set_option maxHeartbeats 400000 in
theorem putbytes_ok {A : Option Addr} {c : Nat} {l : List UInt8} {w : World} (h : Rd w A (l.map byt)) (hl : l.length ≤ 65536) :
    Calls Try.prog 52 #[.slice A l.length c] w fun e w' => ∃ v, e = .returned (.tuple #[v, .int .i64 0]) ∧ w'.ownsRow w.heap.size 5 1 v (tx l).length ((tx l).map byt) ∧ Below w.heap.size w w' := by
  have q : ¬ (65536 < l.length) := by omega
  rw [tx_length, tx, List.map_append]
  go_enter Try.func52, Try.ntmps52
  go_wp2_with fail
  refine (putint_any l.length 4 (by omega) w).mono ?_
  rintro e w1 ⟨v1, rfl, hown1, hb1⟩
  have h1 := h.below hb1
  go_wp2_with (at_builtin; refine wpList_app rfl (.tmp 9) (.tmp 10) 22 rfl w.heap.size 5 Try.underlying22 infoB rfl (by decide) v1 4 _ rfl hown1 A l.length c (l.map byt) rfl (by simp) h1 (byt_one l) (by omega) (by omega) hb1.size ?_; intro v2 w2 hin2 hg2 hat2; have hb2 : Below w.heap.size w w2 := (hb1.grown hg2 hb1.size (by intro k hk; exact (own_lt hown1 hk).1)))
  go_ret2
  exact ⟨_, rfl, hin2, hb2⟩
theorem putbytes_no {A : Option Addr} {c n : Nat} {w : World} (hl : 65536 < n) :
    Calls Try.prog 52 #[.slice A n c] w fun e w' => e = .returned (.tuple #[.slice none 0 0, .int .i64 2]) ∧ w = w' := by
  go_enter Try.func52, Try.ntmps52
  go_wp2_with fail
  go_ret2
  exact ⟨rfl, rfl⟩
set_option maxHeartbeats 400000 in
theorem rputbytes_ok {A : Option Addr} {c : Nat} {l : List UInt8} {w : World} (h : Rd w A (l.map byt)) (hl : l.length ≤ 65536) :
    Calls Try.prog 55 #[.slice A l.length c] w fun e w' => ∃ v, e = .returned (.tuple #[v, .int .i64 0]) ∧ w'.ownsRow w.heap.size 5 1 v (tx l).length ((tx l).map byt) ∧ Below w.heap.size w w' := by
  have q : ¬ (65536 < l.length) := by omega
  rw [tx_length, tx, List.map_append]
  go_enter Try.func55, Try.ntmps55
  go_wp2_with fail
  refine (four_any l.length (by omega) w).mono ?_
  rintro e w1 ⟨v1, rfl, hown1, hb1⟩
  have h1 := h.below hb1
  go_wp2_with (at_builtin; refine wpList_app rfl (.tmp 9) (.tmp 10) 22 rfl w.heap.size 5 Try.underlying22 infoB rfl (by decide) v1 4 _ rfl hown1 A l.length c (l.map byt) rfl (by simp) h1 (byt_one l) (by omega) (by omega) hb1.size ?_; intro v2 w2 hin2 hg2 hat2; have hb2 : Below w.heap.size w w2 := (hb1.grown hg2 hb1.size (by intro k hk; exact (own_lt hown1 hk).1)))
  go_ret2
  exact ⟨_, rfl, hin2, hb2⟩
theorem rputbytes_no {A : Option Addr} {c n : Nat} {w : World} (hl : 65536 < n) :
    Calls Try.prog 55 #[.slice A n c] w fun e w' => e = .returned (.tuple #[.slice none 0 0, .int .i64 2]) ∧ w = w' := by
  go_enter Try.func55, Try.ntmps55
  go_wp2_with fail
  go_ret2
  exact ⟨rfl, rfl⟩
set_option maxHeartbeats 800000 in
theorem bytes_any {A : Option Addr} {c : Nat} {l : List UInt8} {w : World} (h : Rd w A (l.map byt)) (hc : l.length ≤ c) (hl : l.length ≤ 140737488351236) (a : Int) :
    Calls Try.prog 37 #[.slice A l.length c, .int .i64 a] w fun e w' => ∃ v, e = .returned (.tuple #[v, .int .i64 (bytesR l a).2.1, .int .i64 (bytesR l a).2.2]) ∧ w'.ownsRow w.heap.size 5 1 v (bytesR l a).1.length ((bytesR l a).1.map byt) ∧ Below w.heap.size w w' := by
  have hs := sized_any h hc hl a 65536 65536 rfl
  rcases sizeR_cases l a 65536 with ⟨e, he, hz⟩ | ⟨k, rfl, hk, hm, hz⟩
  · have hne : (e == 0) = false := by rcases he with rfl | rfl | rfl <;> rfl
    have hR : bytesR l a = ([], 0, e) := by rw [bytesR, hz, if_neg (by rcases he with rfl | rfl | rfl <;> decide)]
    rw [hR]
    rw [hz] at hs
    dsimp only at hs ⊢
    clear hR hz
    go_enter Try.func37, Try.ntmps37
    go_wp2_with fail
    refine hs.mono ?_
    rintro e w' ⟨rfl, rfl⟩
    go_wp2_with fail
    go_ret3
    exact ⟨_, rfl, World.ownsRow_nil _ _ _ _, Below.refl _ _⟩
  · rw [hz] at hs
    dsimp only at hs
    generalize hn : nat ((l.drop k).take 4) = n at hm hs hz
    have e2 := wrap_of ((l.length : Int) - ((k : Int) + 4)) (by omega) (by omega)
    by_cases h2 : (l.length : Int) - (k + 4) < n
    · have hR : bytesR l k = ([], 0, 11) := by rw [bytesR, hz, if_pos rfl, if_pos h2]
      rw [hR]
      dsimp only
      clear hR hz hn
      go_enter Try.func37, Try.ntmps37
      go_wp2_with fail
      refine hs.mono ?_
      rintro e w' ⟨rfl, rfl⟩
      go_wp2_with fail
      go_ret3
      exact ⟨_, rfl, World.ownsRow_nil _ _ _ _, Below.refl _ _⟩
    · have hR : bytesR l k = ((l.drop (k + 4)).take n, (k : Int) + 4 + n, 0) := by
        rw [bytesR, hz, if_pos rfl, if_neg h2]
        rw [show ((k : Int) + 4).toNat = k + 4 by omega]; rfl
      rw [hR]
      dsimp only
      clear hR hz hn
      have e3 := wrap_of ((k : Int) + 4 + n) (by omega) (by omega)
      have hr : Rd w (cutA A c (k + 4) 1) (((l.drop (k + 4)).take n).map byt) := by
        have := (h.cutA (k + 4) 1 (c := c) (by simpa using hc)).take n
        simpa using this
      have hsl := fun W => run_slice_mid (P := Try.prog) Try.underlying22 infoB A l.length c (k + 4) (k + 4 + n) .i64 .i64 ((k : Int) + 4) ((k : Int) + 4 + (n : Int)) (by omega) (by omega) (by omega) (by omega) W
      have hdl : ((l.drop (k + 4)).take n).length = n := by simp; omega
      rw [show k + 4 + n - (k + 4) = n by omega] at hsl
      revert hr hsl hdl
      generalize cutA A c (k + 4) 1 = B
      generalize (l.drop (k + 4)).take n = m
      intro hr hsl hdl
      subst hdl
      have hcl := fun C => clone_any (c := C) hr (by omega)
      go_enter Try.func37, Try.ntmps37
      go_wp2_with fail
      refine hs.mono ?_
      rintro e w' ⟨rfl, rfl⟩
      go_wp2_with fail
      refine (hcl _).mono ?_
      rintro e w1 ⟨v1, rfl, hown1, hb1⟩
      go_wp2_with fail
      go_ret3
      exact ⟨_, rfl, hown1, hb1⟩
end Go.Proofs.Ytoceipdkmafagaa
