import Derived.Test.YtoceipdkmafagaaWireC
namespace Go.Proofs.Ytoceipdkmafagaa
open Go.RowKit Go.Cov
set_option maxHeartbeats 800000 in
theorem rnum_any {A : Option Addr} {c : Nat} {l : List UInt8} {w : World} (h : Rd w A (l.map byt)) (hc : l.length ≤ c) (hl : l.length ≤ 140737488351236) (a : Int) :
    Calls Try.prog 59 #[.slice A l.length c, .int .i64 a] w fun e w' => e = .returned (.tuple #[.int .i64 (getR l a 8).1, .int .i64 (getR l a 8).2.1, .int .i64 (getR l a 8).2.2]) ∧ w = w' := by
  by_cases h1 : a < 0 ∨ (l.length : Int) < a
  · have e : getR l a 8 = (0, 0, 1) := by rw [getR, if_pos h1]
    rw [e]
    clear e
    go_enter Try.func59, Try.ntmps59
    go_wp2_with fail
    refine (there_no a h1).mono ?_
    rintro e w' ⟨rfl, rfl⟩
    go_wp2_with fail
    go_ret3
    exact ⟨rfl, rfl⟩
  · obtain ⟨k, rfl⟩ : ∃ k : Nat, a = k := ⟨a.toNat, by omega⟩
    have ht := there_ok (A := A) (c := c) (n := l.length) (w := w) k (by omega)
    have hr := h.cutA k 1 (c := c) (by simpa using hc)
    rw [Nat.mul_one, ← List.map_drop] at hr
    have hdl : (l.drop k).length = l.length - k := by simp
    have hkl : k ≤ l.length := by omega
    by_cases h2 : (l.length : Int) - k < 8
    · have e : getR l k 8 = (0, 0, 11) := by rw [getR, if_neg h1, if_pos (by omega)]
      rw [e]
      clear e
      have q4 : l.length - k < 8 := by omega
      clear h1 h2
      generalize cutA A c k 1 = B at ht
      go_enter Try.func59, Try.ntmps59
      go_wp2_with fail
      refine ht.mono ?_
      rintro e w' ⟨rfl, rfl⟩
      go_wp2_with fail
      go_ret3
      exact ⟨rfl, rfl⟩
    · have e : getR l k 8 = (gv ((l.drop k).take 8), (k : Int) + 8, 0) := by rw [getR, if_neg h1, if_neg (by omega)]; rfl
      rw [e]
      clear e
      have q4 : ¬ (l.length - k < 8) := by omega
      have q5 : 8 ≤ l.length - k := by omega
      have e1 : IntKind.i64.wrap ((k : Int) + 8) = (k : Int) + 8 := by simp [IntKind.wrap, IntKind.signed, IntKind.bits]; omega
      clear h1 h2
      revert hr hdl ht
      generalize l.drop k = m
      generalize cutA A c k 1 = B
      intro ht hr hdl
      go_enter Try.func59, Try.ntmps59
      go_wp2_with fail
      refine ht.mono ?_
      rintro e w' ⟨rfl, rfl⟩
      go_wp2_with fail
      go_loopw [9, 10] (fun v i W => ∃ (j : Nat), j ≤ 8 ∧ i = .int .i64 j ∧ v = .int .i64 (gv (m.take j)) ∧ W = w) (fun _ i _ => 8 - (intOf i).toNat)
      case atStart => exact ⟨0, Nat.zero_le _, rfl, rfl, rfl⟩
      case round =>
        obtain ⟨j, hj, rfl, rfl, rfl⟩ := hrel
        by_cases hlt : j < 8
        · obtain ⟨pb, rfl, hcell⟩ := hr j (byt (m[j]'(by omega))) (by rw [List.getElem?_map, List.getElem?_eq_getElem (by omega)]; rfl)
          have hg := hid (gv_step m j (by omega))
          generalize m[j]'(by omega) = x at hcell hg
          simp only [byt] at hcell
          generalize gv (m.take j) = v at hg
          have eo := or_step v x
          generalize hy : wrap64 (v * 256 + x.toNat) = y at hg eo
          have Hy := hid hy
          clear hy
          have q6 : j < l.length - k := by omega
          go_wp2_with fail
          go_roundw
          case rel => exact ⟨j + 1, by omega, by go_num, by rw [hg.out], trivial⟩
          case measure => simp [intOf]; omega
        · obtain rfl : j = 8 := by omega
          go_wp2_with fail
          go_ret3
          exact ⟨rfl, rfl⟩
set_option maxHeartbeats 800000 in
theorem rbool_any {A : Option Addr} {c : Nat} {l : List UInt8} {w : World} (h : Rd w A (l.map byt)) (hc : l.length ≤ c) (hl : l.length ≤ 140737488351236) (a : Int) :
    Calls Try.prog 49 #[.slice A l.length c, .int .i64 a] w fun e w' => e = .returned (.tuple #[.bool (boolR l a).1, .int .i64 (boolR l a).2.1, .int .i64 (boolR l a).2.2]) ∧ w = w' := by
  unfold boolR
  by_cases h1 : a < 0 ∨ (l.length : Int) < a
  · have e : boolOf (getR l a 1) = (false, 0, 1) := by rw [getR, if_pos h1, boolOf, if_neg (by decide)]
    rw [e]
    clear e
    go_enter Try.func49, Try.ntmps49
    go_wp2_with fail
    refine (there_no a h1).mono ?_
    rintro e w' ⟨rfl, rfl⟩
    go_wp2_with fail
    go_ret3
    exact ⟨rfl, rfl⟩
  · obtain ⟨k, rfl⟩ : ∃ k : Nat, a = k := ⟨a.toNat, by omega⟩
    have ht := there_ok (A := A) (c := c) (n := l.length) (w := w) k (by omega)
    have hr := h.cutA k 1 (c := c) (by simpa using hc)
    rw [Nat.mul_one, ← List.map_drop] at hr
    have hdl : (l.drop k).length = l.length - k := by simp
    have hkl : k ≤ l.length := by omega
    by_cases h2 : (l.length : Int) - k < 1
    · have e : boolOf (getR l k 1) = (false, 0, 11) := by rw [getR, if_neg h1, if_pos (by omega), boolOf, if_neg (by decide)]
      rw [e]
      clear e
      have q4 : l.length - k = 0 := by omega
      rw [q4] at ht
      clear h1 h2 q4
      generalize cutA A c k 1 = B at ht
      go_enter Try.func49, Try.ntmps49
      go_wp2_with fail
      refine ht.mono ?_
      rintro e w' ⟨rfl, rfl⟩
      go_wp2_with fail
      go_ret3
      exact ⟨rfl, rfl⟩
    · have e : getR l k 1 = (gv ((l.drop k).take 1), (k : Int) + 1, 0) := by rw [getR, if_neg h1, if_neg (by omega)]; rfl
      rw [e]
      clear e
      have e1 : IntKind.i64.wrap ((k : Int) + 1) = (k : Int) + 1 := by simp [IntKind.wrap, IntKind.signed, IntKind.bits]; omega
      obtain ⟨d, hd⟩ : ∃ d, l.length - k = d + 1 := ⟨l.length - k - 1, by omega⟩
      rw [hd] at ht hdl
      clear h1 h2 hd
      generalize l.drop k = m at hr hdl ⊢
      generalize cutA A c k 1 = B at hr ht
      obtain ⟨x, m, rfl⟩ : ∃ x m', m = x :: m' := by
        match m, hdl with
        | x :: m', _ => exact ⟨x, m', rfl⟩
      rw [show (x :: m).take 1 = [x] from rfl, gv_one]
      obtain ⟨pb, rfl, hcell⟩ := hr 0 (byt x) rfl
      have hadd : pb.add 0 = pb := by simp [Addr.add]
      rw [hadd] at hcell
      simp only [byt] at hcell
      by_cases hx : 1 < x.toNat
      · have e : boolOf ((x.toNat : Int), (k : Int) + 1, 0) = (false, 0, 12) := by rw [boolOf, if_pos rfl, if_pos (by show (1 : Int) < x.toNat; omega)]
        rw [e]
        clear e
        go_enter Try.func49, Try.ntmps49
        go_wp2_with fail
        refine ht.mono ?_
        rintro e w' ⟨rfl, rfl⟩
        go_wp2_with fail
        go_ret3
        exact ⟨rfl, rfl⟩
      · have e : boolOf ((x.toNat : Int), (k : Int) + 1, 0) = ((x.toNat : Int) == 1, (k : Int) + 1, 0) := by rw [boolOf, if_pos rfl, if_neg (by show ¬ (1 : Int) < x.toNat; omega)]
        rw [e]
        clear e
        go_enter Try.func49, Try.ntmps49
        go_wp2_with fail
        refine ht.mono ?_
        rintro e w' ⟨rfl, rfl⟩
        go_wp2_with fail
        go_ret3
        exact ⟨rfl, rfl⟩
end Go.Proofs.Ytoceipdkmafagaa
