import Derived.Test.YtoceipdkmafagaaWireF
import Derived.Outline
namespace Go.Proofs.Ytoceipdkmafagaa
open Go.RowKit Go.Cov
set_option maxHeartbeats 800000 in
theorem size_any {A : Option Addr} {c : Nat} {l : List UInt8} {w : World} (h : Rd w A (l.map byt)) (hc : l.length ≤ c) (hl : l.length ≤ 140737488351236) (a : Int) (m : Int) (most : Nat) (hm : m = most) :
    Calls Try.prog 65 #[.slice A l.length c, .int .i64 a, .int .i64 m] w fun e w' => e = .returned (.tuple #[.int .i64 (sizeR l a most).1, .int .i64 (sizeR l a most).2.1, .int .i64 (sizeR l a most).2.2]) ∧ ∃ k, w' = w.drewN k := by
  subst hm
  unfold sizeR
  by_cases h1 : a < 0 ∨ (l.length : Int) < a
  · have e : sizeOf' (getR l a 4) most = (0, 0, 1) := by rw [getR, if_pos h1, sizeOf', if_neg (by simp)]
    rw [e]
    clear e
    go_enter Try.func65, Try.ntmps65
    go_wp2_with fail
    refine (there_no a h1).mono ?_
    rintro e w' ⟨rfl, rfl⟩
    go_wp2_with fail
    go_ret3
    exact ⟨rfl, 0, rfl⟩
  · obtain ⟨k, rfl⟩ : ∃ k : Nat, a = k := ⟨a.toNat, by omega⟩
    have ht := there_ok (A := A) (c := c) (n := l.length) (w := w) k (by omega)
    have hr := h.cutA k 1 (c := c) (by simpa using hc)
    rw [Nat.mul_one, ← List.map_drop] at hr
    have hdl : (l.drop k).length = l.length - k := by simp
    have hkl : k ≤ l.length := by omega
    by_cases h2 : (l.length : Int) - k < 4
    · have e : sizeOf' (getR l k 4) most = (0, 0, 11) := by rw [getR, if_neg h1, if_pos (by omega), sizeOf', if_neg (by simp)]
      rw [e]
      have q4 : l.length - k < 4 := by omega
      clear h1 h2 e
      generalize cutA A c k 1 = B at ht
      go_enter Try.func65, Try.ntmps65
      go_wp2_with fail
      refine ht.mono ?_
      rintro e w' ⟨rfl, rfl⟩
      go_wp2_with fail
      go_ret3
      exact ⟨rfl, 0, rfl⟩
    · have e : getR l k 4 = (gv ((l.drop k).take 4), (k : Int) + 4, 0) := by rw [getR, if_neg h1, if_neg (by omega)]; rfl
      rw [e]
      clear e
      have e1 : IntKind.i64.wrap ((k : Int) + 4) = (k : Int) + 4 := by simp [IntKind.wrap, IntKind.signed, IntKind.bits]; omega
      obtain ⟨D, hd⟩ : ∃ D, l.length - k = D := ⟨_, rfl⟩
      have b4 : ¬ (D < 4) := by omega
      have b0 : (0 : Int) < (D : Int) := by omega
      have b1 : (1 : Int) < (D : Int) := by omega
      have b2 : (2 : Int) < (D : Int) := by omega
      have b3 : (3 : Int) < (D : Int) := by omega
      have c0 : 0 < D := by omega
      have c1 : 1 < D := by omega
      have c2 : 2 < D := by omega
      have c3 : 3 < D := by omega
      rw [hd] at ht hdl
      clear h1 h2 hd
      generalize l.drop k = m' at hr hdl ⊢
      generalize cutA A c k 1 = B at hr ht
      obtain ⟨x0, x1, x2, x3, r, rfl⟩ : ∃ x0 x1 x2 x3 r, m' = x0 :: x1 :: x2 :: x3 :: r := by
        have hq : 4 ≤ m'.length := by omega
        match m', hq with
        | x0 :: x1 :: x2 :: x3 :: r, _ => exact ⟨x0, x1, x2, x3, r, rfl⟩
        | [], h => simp at h
        | [_], h => simp at h
        | [_, _], h => simp at h
        | [_, _, _], h => simp at h
      have hg : gv ((x0 :: x1 :: x2 :: x3 :: r).take 4) = ((x0.toNat : Int) * 256 * 256 + x1.toNat * 256 + x2.toNat) * 256 + x3.toNat := by
        have := (gv4 [x0, x1, x2, x3] (by simp)).1
        rw [show (x0 :: x1 :: x2 :: x3 :: r).take 4 = [x0, x1, x2, x3] from rfl, this]
        simp only [nat, List.foldl_cons, List.foldl_nil]
        omega
      rw [hg]
      clear hg hdl
      obtain ⟨ad, rfl, hc0⟩ := hr 0 (byt x0) rfl
      obtain ⟨_, hh1, hc1⟩ := hr 1 (byt x1) rfl
      obtain ⟨_, hh2, hc2⟩ := hr 2 (byt x2) rfl
      obtain ⟨_, hh3, hc3⟩ := hr 3 (byt x3) rfl
      cases hh1; cases hh2; cases hh3
      have hadd : ad.add 0 = ad := by simp [Addr.add]
      rw [hadd] at hc0
      rw [show ad.add 1 = ⟨ad.block, ad.off + 1, none⟩ from rfl] at hc1
      rw [show ad.add 2 = ⟨ad.block, ad.off + 2, none⟩ from rfl] at hc2
      rw [show ad.add 3 = ⟨ad.block, ad.off + 3, none⟩ from rfl] at hc3
      simp only [byt] at hc0 hc1 hc2 hc3
      have y0 := x0.toNat_lt
      have y1 := x1.toNat_lt
      have y2 := x2.toNat_lt
      have y3 := x3.toNat_lt
      generalize x0.toNat = z0 at hc0 y0 ⊢
      generalize x1.toNat = z1 at hc1 y1 ⊢
      generalize x2.toNat = z2 at hc2 y2 ⊢
      generalize x3.toNat = z3 at hc3 y3 ⊢
      have w0 := wrap_of (z0 : Int) (by omega) (by omega)
      have w1 := wrap_of (z1 : Int) (by omega) (by omega)
      have w2 := wrap_of (z2 : Int) (by omega) (by omega)
      have w3 := wrap_of (z3 : Int) (by omega) (by omega)
      have u0 := wrap_of ((z0 : Int) * 16777216) (by omega) (by omega)
      have u1 := wrap_of ((z1 : Int) * 65536) (by omega) (by omega)
      have u2 := wrap_of ((z2 : Int) * 256) (by omega) (by omega)
      obtain ⟨s1, hs1, o1⟩ : ∃ s1 : Int, Hid (s1 = (z0 : Int) * 16777216 + (z1 : Int) * 65536) ∧ bits .or .i64 ((z0 : Int) * 16777216) ((z1 : Int) * 65536) = s1 := ⟨_, hid rfl, by
        have := or_add 24 (z1 * 65536) z0 (by omega) (by omega)
        rw [show ((2 ^ 24 * z0 : Nat) : Int) = (z0 : Int) * 16777216 by omega, show ((z1 * 65536 : Nat) : Int) = (z1 : Int) * 65536 by omega] at this
        rw [this]; omega⟩
      obtain ⟨s2, hs2, o2⟩ : ∃ s2 : Int, Hid (s2 = (z0 : Int) * 16777216 + (z1 : Int) * 65536 + (z2 : Int) * 256) ∧ bits .or .i64 s1 ((z2 : Int) * 256) = s2 := ⟨_, hid rfl, by
        have := or_add 16 (z2 * 256) (z0 * 256 + z1) (by omega) (by omega)
        rw [show ((2 ^ 16 * (z0 * 256 + z1) : Nat) : Int) = s1 by have := hs1.out; omega, show ((z2 * 256 : Nat) : Int) = (z2 : Int) * 256 by omega] at this
        rw [this]; omega⟩
      obtain ⟨s3, hs3, o3⟩ : ∃ s3 : Int, Hid (s3 = (z0 : Int) * 16777216 + (z1 : Int) * 65536 + (z2 : Int) * 256 + z3) ∧ bits .or .i64 s2 (z3 : Int) = s3 := ⟨_, hid rfl, by
        have := or_add 8 z3 (z0 * 65536 + z1 * 256 + z2) (by omega) (by omega)
        rw [show ((2 ^ 8 * (z0 * 65536 + z1 * 256 + z2) : Nat) : Int) = s2 by have := hs2.out; omega] at this
        rw [this]; omega⟩
      rw [show ((z0 : Int) * 256 * 256 + z1 * 256 + z2) * 256 + z3 = s3 by have := hs3.out; omega]
      clear hs1 hs2 hs3
      by_cases hx : (most : Int) < s3
      · have e : sizeOf' (s3, (k : Int) + 4, 0) most = (0, 0, 2) := by rw [sizeOf', if_pos ⟨rfl, hx⟩]
        rw [e]
        clear hr h e
        go_enter Try.func65, Try.ntmps65
        go_wp2_with fail
        refine ht.mono ?_
        rintro e w' ⟨rfl, rfl⟩
        go_wp2_with fail
        go_quiet (fail)
        go_wp2_with fail
        go_ret3
        exact ⟨rfl, _, rfl⟩
      · have e : sizeOf' (s3, (k : Int) + 4, 0) most = (s3, (k : Int) + 4, 0) := by rw [sizeOf', if_neg (fun hh => hx hh.2)]
        rw [e]
        clear hr h e
        go_enter Try.func65, Try.ntmps65
        go_wp2_with fail
        refine ht.mono ?_
        rintro e w' ⟨rfl, rfl⟩
        go_wp2_with fail
        go_quiet (fail)
        go_wp2_with fail
        go_ret3
        exact ⟨rfl, _, rfl⟩
end Go.Proofs.Ytoceipdkmafagaa
