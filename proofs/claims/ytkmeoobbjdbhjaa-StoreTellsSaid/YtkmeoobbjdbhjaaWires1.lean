import Derived.Test.YtkmeoobbjdbhjaaPlain1
import Derived.WalkSpells
import Derived.Test.YtkmeoobbjdbhjaaRows
import Derived.Deep.QuietTactic
import Derived.BigQuiet
import Derived.Deep.LoopGhost
import Derived.StillTailTactics
import Derived.Outline
import Derived.WalkSmall
namespace Go.Proofs.Ytkmeoobbjdbhjaa
open Go.RowKit Go.Cov
theorem infoB : (Try.prog.info? 5).map (fun i => (i.zero, i.size, i.bytes)) = some (some (.int .u8 0), 1, 1) := by kernel_rfl
set_option maxHeartbeats 800000 in
theorem putint_any (n : Int) (s : Nat) (hs : s ≤ 8) (w : World) :
    Calls Try.prog 41 #[.int .i64 n, .int .i64 s] w fun e w' => ∃ v, e = .returned v ∧ w'.ownsRow w.heap.size 5 1 v s ((be s n).map byt) ∧ Below w.heap.size w w' := by
  go_enter Try.func41, Try.ntmps41
  go_wp2_with (at_make; refine wpList_mkn rfl (.tmp 7) (.tmp 7) 23 rfl w.heap.size 5 Try.underlying23 infoB s rfl rfl rfl rfl (by omega) (by omega) (Nat.le_refl _) ?_; intro w2 hown2 hg2)
  have hb2 : Below w.heap.size w w2 := (Below.refl _ _).grown hg2 (Nat.le_refl _) (by intro k hk; cases hk)
  have hz : (madeCells (Value.int IntKind.u8 0).cells (s * 1)).toList = (List.replicate s (0 : UInt8)).map byt := by
    rw [List.map_replicate]; simp [madeCells, Value.cells, byt, Nat.mod_one, List.map_const']
  rw [hz] at hown2
  clear hz
  go_loopw [11] (fun i W => ∃ (k : Nat) (xs : List UInt8), k ≤ s ∧ i = .int .i64 k ∧ xs.length = s ∧ (∀ j, j < k → xs[s - 1 - j]? = some (bt n j)) ∧ W.ownsRow w.heap.size 5 1 (.slice (some ⟨w.heap.size, 0, none⟩) s s) s (xs.map byt) ∧ w2.grownBy W (some w.heap.size)) (fun i _ => s - (intOf i).toNat)
  case atStart => exact ⟨0, List.replicate s 0, Nat.zero_le _, rfl, by simp, fun j hj => by omega, hown2, World.grownBy.refl _ _⟩
  case round =>
    obtain ⟨k, xs, hk, rfl, hxl, hxs, hown, hg⟩ := hrel
    by_cases hlt : k < s
    · have ek : IntKind.i64.wrap (8 * (k : Int)) = ((8 * k : Nat) : Int) := by simp [IntKind.wrap, IntKind.signed, IntKind.bits]; omega
      have e1 : IntKind.i64.wrap ((s : Int) - 1) = (s : Int) - 1 := by simp [IntKind.wrap, IntKind.signed, IntKind.bits]; omega
      obtain ⟨q, hq, hqs, e2⟩ : ∃ q : Nat, Hid (q = s - 1 - k) ∧ q < s ∧ IntKind.i64.wrap ((s : Int) - 1 - k) = (q : Int) := ⟨s - 1 - k, hid rfl, by omega, by simp [IntKind.wrap, IntKind.signed, IntKind.bits]; omega⟩
      have hck := hown.cellAt q (by omega)
      have hfk := hown.frozenAt q
      have eb : byt (bt n k) = .int .u8 (n / 2 ^ (8 * k) % 256) := by unfold byt; rw [bt_int]
      obtain ⟨b1, b2⟩ := hown.stored q (byt (bt n k))
      rw [← List.map_set] at b1
      rw [eb] at b1 b2
      clear eb
      go_wp2_with fail
      go_roundw
      case rel => exact ⟨k + 1, xs.set q (bt n k), by omega, by go_num, by simpa using hxl, fun j hj => by
        rw [List.getElem?_set]
        by_cases h : k = j
        · subst h; rw [if_pos hq.out, if_pos (by omega)]
        · rw [if_neg (by have := hq.out; omega)]; exact hxs j (by omega), b1, grown_after hg b2 (fun j hj => .inr rfl)⟩
      case measure => simp [intOf]; omega
    · obtain rfl : k = s := by omega
      have hbr : Below w.heap.size w wr := hb2.grown hg hb2.size (by intro j hj; cases hj; omega)
      have hxe : xs = be k n := by
        apply List.ext_getElem?
        intro j
        by_cases hj : j < k
        · have h1 := hxs (k - 1 - j) (by omega)
          have h2 := be_at k n (k - 1 - j) (by omega)
          rw [show k - 1 - (k - 1 - j) = j by omega] at h1 h2
          rw [h1, h2]
        · rw [List.getElem?_eq_none (by omega), List.getElem?_eq_none (by rw [be_length]; omega)]
      rw [hxe] at hown
      go_wp2_with fail
      go_ret
      exact ⟨_, rfl, hown, hbr⟩
end Go.Proofs.Ytkmeoobbjdbhjaa


namespace Go.Proofs.Ytkmeoobbjdbhjaa
open Go.RowKit Go.Cov
set_option maxHeartbeats 800000 in
theorem getint_ok {A : Option Addr} {c : Nat} {l : List UInt8} {w : World} (h : Rd w A (l.map byt)) (hc : l.length ≤ c) (hl : l.length ≤ 140737488351236) (at' : Nat) (s : Nat) (hs : s ≤ 8) (hat : at' + s ≤ l.length) :
    Calls Try.prog 49 #[.slice A l.length c, .int .i64 at', .int .i64 s] w fun e w' => e = .returned (.tuple #[.int .i64 (gv ((l.drop at').take s)), .int .i64 ((at' : Int) + s), .int .i64 0]) ∧ w = w' := by
  have e1 : IntKind.i64.wrap ((at' : Int) + s) = (at' : Int) + s := by simp [IntKind.wrap, IntKind.signed, IntKind.bits]; omega
  have e2 : IntKind.i64.wrap ((l.length : Int) - at') = ((l.length - at' : Nat) : Int) := by simp [IntKind.wrap, IntKind.signed, IntKind.bits]; omega
  have hr : Rd w (cutA A c at' 1) (((l.drop at').take s).map byt) := by
    have := (h.cutA at' 1 (c := c) (by simpa using hc)).take s
    simpa using this
  have hsl := fun W => run_slice_mid (P := Try.prog) Try.underlying23 infoB A l.length c at' (at' + s) .i64 .i64 at' ((at' : Int) + (s : Int)) rfl (by omega) (by omega) (by omega) W
  have hdl : ((l.drop at').take s).length = s := by simp; omega
  rw [show at' + s - at' = s by omega] at hsl
  have q1 : at' ≤ l.length := by omega
  have q2 : s ≤ l.length - at' := by omega
  have q3 : ¬ (l.length < at') := by omega
  have q4 : ¬ (l.length - at' < s) := by omega
  revert hr hsl hdl
  generalize cutA A c at' 1 = B
  generalize (l.drop at').take s = m
  intro hr hsl hdl
  go_enter Try.func49, Try.ntmps49
  go_wp2_with fail
  go_loopw [9, 33] (fun v i W => ∃ (k : Nat), k ≤ s ∧ i = .int .i64 k ∧ v = .int .i64 (gv (m.take k)) ∧ W = w) (fun _ i _ => s - (intOf i).toNat)
  case atStart => exact ⟨0, Nat.zero_le _, rfl, rfl, rfl⟩
  case round =>
    obtain ⟨k, hk, rfl, rfl, rfl⟩ := hrel
    by_cases hlt : k < s
    · obtain ⟨pb, rfl, hcell⟩ := hr k (byt m[k]) (by rw [List.getElem?_map, List.getElem?_eq_getElem (by omega)]; rfl)
      have hg := hid (gv_step m k (by omega))
      generalize m[k] = x at hcell hg
      simp only [byt] at hcell
      generalize gv (m.take k) = v at hg
      have eo := or_step v x
      generalize hy : wrap64 (v * 256 + x.toNat) = y at hg eo
      have Hy := hid hy
      clear hy
      go_wp2_with fail
      go_roundw
      case rel => exact ⟨k + 1, by omega, by go_num, by rw [hg.out], trivial⟩
      case measure => simp [intOf]; omega
    · obtain rfl : k = s := by omega
      rw [List.take_of_length_le (by omega)]
      go_wp2_with fail
      go_ret3
      exact ⟨rfl, rfl⟩
set_option maxHeartbeats 800000 in
theorem getint_any {A : Option Addr} {c : Nat} {l : List UInt8} {w : World} (h : Rd w A (l.map byt)) (hc : l.length ≤ c) (hl : l.length ≤ 140737488351236) (a : Int) (s : Nat) (hs : s ≤ 8) :
    Calls Try.prog 49 #[.slice A l.length c, .int .i64 a, .int .i64 s] w fun e w' => e = .returned (.tuple #[.int .i64 (getR l a s).1, .int .i64 (getR l a s).2.1, .int .i64 (getR l a s).2.2]) ∧ w = w' := by
  by_cases h1 : a < 0 ∨ (l.length : Int) < a
  · have e : getR l a s = (0, 0, 1) := by rw [getR, if_pos h1]
    rw [e]
    clear e
    rcases (show a < 0 ∨ (¬ a < 0 ∧ (l.length : Int) < a) by omega) with h2 | ⟨h2, h3⟩
    · clear h1
      go_enter Try.func49, Try.ntmps49
      go_wp2_with fail
      go_ret3
      exact ⟨rfl, rfl⟩
    · clear h1
      have h4 : ¬ a ≤ (l.length : Int) := by omega
      go_enter Try.func49, Try.ntmps49
      go_wp2_with fail
      go_ret3
      exact ⟨rfl, rfl⟩
  · obtain ⟨k, rfl⟩ : ∃ k : Nat, a = k := ⟨a.toNat, by omega⟩
    by_cases h2 : (l.length : Int) - k < s
    · have e : getR l k s = (0, 0, 11) := by rw [getR, if_neg h1, if_pos h2]
      rw [e]
      clear e
      have e2 : IntKind.i64.wrap ((l.length : Int) - k) = ((l.length - k : Nat) : Int) := by simp [IntKind.wrap, IntKind.signed, IntKind.bits]; omega
      have q1 : k ≤ l.length := by omega
      have q3 : ¬ (l.length < k) := by omega
      have q4 : l.length - k < s := by omega
      clear h1 h2
      go_enter Try.func49, Try.ntmps49
      go_wp2_with fail
      go_ret3
      exact ⟨rfl, rfl⟩
    · have e : getR l k s = (gv ((l.drop k).take s), (k : Int) + s, 0) := by rw [getR, if_neg h1, if_neg h2]; rfl
      rw [e]
      exact getint_ok h hc hl k s hs (by omega)
end Go.Proofs.Ytkmeoobbjdbhjaa


namespace Go.Proofs.Ytkmeoobbjdbhjaa
open Go.RowKit Go.Cov
theorem there_no {A : Option Addr} {c n : Nat} {w : World} (a : Int) (ha : a < 0 ∨ (n : Int) < a) :
    Calls Try.prog 50 #[.slice A n c, .int .i64 a] w fun e w' => e = .returned (.tuple #[.slice none 0 0, .int .i64 1]) ∧ w = w' := by
  rcases (show a < 0 ∨ (¬ a < 0 ∧ (n : Int) < a) by omega) with h2 | ⟨h2, h3⟩
  · clear ha
    go_enter Try.func50, Try.ntmps50
    go_wp2_with fail
    go_ret2
    exact ⟨rfl, rfl⟩
  · have h4 : ¬ a ≤ (n : Int) := by omega
    clear ha
    go_enter Try.func50, Try.ntmps50
    go_wp2_with fail
    go_ret2
    exact ⟨rfl, rfl⟩
theorem there_ok {A : Option Addr} {c n : Nat} {w : World} (k : Nat) (hk : k ≤ n) :
    Calls Try.prog 50 #[.slice A n c, .int .i64 k] w fun e w' => e = .returned (.tuple #[.slice (cutA A c k 1) (n - k) (c - k), .int .i64 0]) ∧ w = w' := by
  have hsl := fun W => run_slice_from (P := Try.prog) Try.underlying23 infoB A n c k .i64 k rfl hk W
  have q : ¬ (n < k) := by omega
  generalize cutA A c k 1 = B at hsl ⊢
  go_enter Try.func50, Try.ntmps50
  go_wp2_with fail
  go_ret2
  exact ⟨rfl, rfl⟩
end Go.Proofs.Ytkmeoobbjdbhjaa


namespace Go.Proofs.Ytkmeoobbjdbhjaa
open Go.RowKit Go.Cov
end Go.Proofs.Ytkmeoobbjdbhjaa


namespace Go.Proofs.Ytkmeoobbjdbhjaa
open Go.RowKit Go.Cov
end Go.Proofs.Ytkmeoobbjdbhjaa


namespace Go.Proofs.Ytkmeoobbjdbhjaa
open Go.RowKit Go.Cov
set_option maxHeartbeats 400000 in
theorem sized_any {A : Option Addr} {c : Nat} {l : List UInt8} {w : World} (h : Rd w A (l.map byt)) (hc : l.length ≤ c) (hl : l.length ≤ 140737488351236) (a : Int) (m : Int) (most : Nat) (hm : m = most) :
    Calls Try.prog 43 #[.slice A l.length c, .int .i64 a, .int .i64 m] w fun e w' => e = .returned (.tuple #[.int .i64 (sizeR l a most).1, .int .i64 (sizeR l a most).2.1, .int .i64 (sizeR l a most).2.2]) ∧ w = w' := by
  have hg := getint_any h hc hl a 4 (by omega)
  unfold sizeR
  revert hg
  generalize getR l a 4 = g
  obtain ⟨x, y, z⟩ := g
  intro hg
  dsimp only at hg
  by_cases hz : z = 0
  · subst hz
    by_cases hx : m < x
    · have e : sizeOf' (x, y, 0) most = (0, 0, 2) := by simp [sizeOf', ← hm, hx]
      rw [e]
      clear e hm
      go_enter Try.func43, Try.ntmps43
      go_wp2_with fail
      refine hg.mono ?_
      rintro e w' ⟨rfl, rfl⟩
      go_wp2_with fail
      go_ret3
      exact ⟨rfl, rfl⟩
    · have e : sizeOf' (x, y, 0) most = (x, y, 0) := by simp [sizeOf', ← hm, hx]
      rw [e]
      clear e hm
      go_enter Try.func43, Try.ntmps43
      go_wp2_with fail
      refine hg.mono ?_
      rintro e w' ⟨rfl, rfl⟩
      go_wp2_with fail
      go_ret3
      exact ⟨rfl, rfl⟩
  · have e : sizeOf' (x, y, z) most = (x, y, z) := by simp [sizeOf', hz]
    rw [e]
    clear e hm
    have hz2 : (z == 0) = false := by simpa using hz
    go_enter Try.func43, Try.ntmps43
    go_wp2_with fail
    refine hg.mono ?_
    rintro e w' ⟨rfl, rfl⟩
    go_wp2_with fail
    go_ret3
    exact ⟨rfl, rfl⟩
theorem clone_any {A : Option Addr} {c : Nat} {l : List UInt8} {w : World} (h : Rd w A (l.map byt)) (hl : l.length ≤ 140737488351236) :
    Calls Try.prog 30 #[.slice A l.length c] w fun e w' => ∃ v, e = .returned v ∧ w'.ownsRow w.heap.size 5 1 v l.length (l.map byt) ∧ Below w.heap.size w w' := by
  have q22 : ∀ (w : World) (a : Option Addr) (n c n' c' : Nat), (binOp .eql 23 (.slice a n c) (.slice none n' c')).run Try.prog w = .ok (.bool a.isNone) w := fun w a n c n' c' => Lib.run_eql_slice_nil w _ _ a n c n' c' Try.underlying23
  cases A with
  | none =>
    have hl0 : l = [] := by
      cases l with
      | nil => rfl
      | cons x l => obtain ⟨ad, hA, _⟩ := h 0 (byt x) rfl; cases hA
    subst hl0
    go_enter Try.func30, Try.ntmps30
    go_wp2_with fail
    go_ret
    exact ⟨_, rfl, World.ownsRow_nil _ _ _ _, Below.refl _ _⟩
  | some ad =>
    have hown : (w.alloc (.cells #[] 5)).ownsRow w.heap.size 5 1 (.slice (some ⟨w.heap.size, 0, none⟩) 0 0) 0 [] := World.ownsRow_made w #[] 0 (Nat.le_refl _) (by simp [maxLen]) rfl
    go_enter Try.func30, Try.ntmps30
    go_wp2_with (at_builtin; refine wpList_app rfl (.tmp 5) (.tmp 6) 23 rfl w.heap.size 5 Try.underlying23 infoB rfl (by decide) (.slice (some ⟨w.heap.size, 0, none⟩) 0 0) 0 _ rfl hown (some ad) l.length c (l.map byt) rfl (by simp) (h.alloc _) (byt_one l) (by omega) (by omega) (by simp) ?_; intro v2 w2 hin2 hg2 hat2; simp only [Nat.zero_add, List.nil_append] at hin2; have hb2 : Below w.heap.size w w2 := ((below_alloc w _).grown hg2 (by simp) (by intro k hk; simp [Value.ownBlock] at hk; omega)))
    go_ret
    exact ⟨_, rfl, hin2, hb2⟩
set_option maxHeartbeats 400000 in
theorem four_any (n : Nat) (hn : n < 4294967296) (w : World) :
    Calls Try.prog 45 #[.int .i64 n] w fun e w' => ∃ v, e = .returned v ∧ w'.ownsRow w.heap.size 5 1 v 4 ((be 4 n).map byt) ∧ Below w.heap.size w w' := by
  have e3 : byt (bt n 3) = .int .u8 ((n : Int) / 16777216) := by unfold byt; rw [bt_int]; exact congrArg (Value.int .u8) (by simp; omega)
  have e2 : byt (bt n 2) = .int .u8 ((n : Int) / 65536 % 256) := by unfold byt; rw [bt_int]; rfl
  have e1 : byt (bt n 1) = .int .u8 ((n : Int) / 256 % 256) := by unfold byt; rw [bt_int]; rfl
  have e0 : byt (bt n 0) = .int .u8 ((n : Int) % 256) := by unfold byt; rw [bt_int, Nat.mul_zero, Int.pow_zero, Int.ediv_one]
  have hbe : (be 4 n).map byt = [.int .u8 ((n : Int) / 16777216), .int .u8 ((n : Int) / 65536 % 256), .int .u8 ((n : Int) / 256 % 256), .int .u8 ((n : Int) % 256)] := by
    simp only [be, List.map_cons, List.map_nil, e3, e2, e1, e0]
  rw [hbe]
  clear hbe e3 e2 e1 e0
  go_enter Try.func45, Try.ntmps45
  go_wp2_with fail
  go_ret
  exact ⟨_, rfl, own_box w 5 #[_, _, _, _] 4 rfl (by simp [maxLen]), below_alloc w _⟩
end Go.Proofs.Ytkmeoobbjdbhjaa


namespace Go.Proofs.Ytkmeoobbjdbhjaa
open Go.RowKit Go.Cov
set_option maxHeartbeats 800000 in
theorem size_any {A : Option Addr} {c : Nat} {l : List UInt8} {w : World} (h : Rd w A (l.map byt)) (hc : l.length ≤ c) (hl : l.length ≤ 140737488351236) (a : Int) (m : Int) (most : Nat) (hm : m = most) :
    Calls Try.prog 47 #[.slice A l.length c, .int .i64 a, .int .i64 m] w fun e w' => e = .returned (.tuple #[.int .i64 (sizeR l a most).1, .int .i64 (sizeR l a most).2.1, .int .i64 (sizeR l a most).2.2]) ∧ ∃ k, w' = w.drewN k := by
  subst hm
  unfold sizeR
  by_cases h1 : a < 0 ∨ (l.length : Int) < a
  · have e : sizeOf' (getR l a 4) most = (0, 0, 1) := by rw [getR, if_pos h1, sizeOf', if_neg (by simp)]
    rw [e]
    clear e
    go_enter Try.func47, Try.ntmps47
    go_wp2_with fail
    refine (there_no a h1).mono ?_
    rintro e w' ⟨rfl, rfl⟩
    go_wp2_with fail
    go_ret3
    exact ⟨rfl, 0, rfl⟩
  · obtain ⟨k, rfl⟩ : ∃ k : Nat, a = k := ⟨a.toNat, by omega⟩
    have ht := there_ok (A := A) (c := c) (n := l.length) (w := w) k (by omega)
    have hr := h.cutA k 1 (c := c) (by simpa using hc)
    rw [Nat.mul_one, ← List.map_drop] at hr
    have hdl : (l.drop k).length = l.length - k := by simp
    have hkl : k ≤ l.length := by omega
    by_cases h2 : (l.length : Int) - k < 4
    · have e : sizeOf' (getR l k 4) most = (0, 0, 11) := by rw [getR, if_neg h1, if_pos (by omega), sizeOf', if_neg (by simp)]
      rw [e]
      have q4 : l.length - k < 4 := by omega
      clear h1 h2 e
      generalize cutA A c k 1 = B at ht
      go_enter Try.func47, Try.ntmps47
      go_wp2_with fail
      refine ht.mono ?_
      rintro e w' ⟨rfl, rfl⟩
      go_wp2_with fail
      go_ret3
      exact ⟨rfl, 0, rfl⟩
    · have e : getR l k 4 = (gv ((l.drop k).take 4), (k : Int) + 4, 0) := by rw [getR, if_neg h1, if_neg (by omega)]; rfl
      rw [e]
      clear e
      have e1 : IntKind.i64.wrap ((k : Int) + 4) = (k : Int) + 4 := by simp [IntKind.wrap, IntKind.signed, IntKind.bits]; omega
      obtain ⟨D, hd⟩ : ∃ D, l.length - k = D := ⟨_, rfl⟩
      have b4 : ¬ (D < 4) := by omega
      have b0 : (0 : Int) < (D : Int) := by omega
      have b1 : (1 : Int) < (D : Int) := by omega
      have b2 : (2 : Int) < (D : Int) := by omega
      have b3 : (3 : Int) < (D : Int) := by omega
      have c0 : 0 < D := by omega
      have c1 : 1 < D := by omega
      have c2 : 2 < D := by omega
      have c3 : 3 < D := by omega
      rw [hd] at ht hdl
      clear h1 h2 hd
      generalize l.drop k = m' at hr hdl ⊢
      generalize cutA A c k 1 = B at hr ht
      obtain ⟨x0, x1, x2, x3, r, rfl⟩ : ∃ x0 x1 x2 x3 r, m' = x0 :: x1 :: x2 :: x3 :: r := by
        have hq : 4 ≤ m'.length := by omega
        match m', hq with
        | x0 :: x1 :: x2 :: x3 :: r, _ => exact ⟨x0, x1, x2, x3, r, rfl⟩
        | [], h => simp at h
        | [_], h => simp at h
        | [_, _], h => simp at h
        | [_, _, _], h => simp at h
      have hg : gv ((x0 :: x1 :: x2 :: x3 :: r).take 4) = ((x0.toNat : Int) * 256 * 256 + x1.toNat * 256 + x2.toNat) * 256 + x3.toNat := by
        have := (gv4 [x0, x1, x2, x3] (by simp)).1
        rw [show (x0 :: x1 :: x2 :: x3 :: r).take 4 = [x0, x1, x2, x3] from rfl, this]
        simp only [nat, List.foldl_cons, List.foldl_nil]
        omega
      rw [hg]
      clear hg hdl
      obtain ⟨ad, rfl, hc0⟩ := hr 0 (byt x0) rfl
      obtain ⟨_, hh1, hc1⟩ := hr 1 (byt x1) rfl
      obtain ⟨_, hh2, hc2⟩ := hr 2 (byt x2) rfl
      obtain ⟨_, hh3, hc3⟩ := hr 3 (byt x3) rfl
      cases hh1; cases hh2; cases hh3
      have hadd : ad.add 0 = ad := by simp [Addr.add]
      rw [hadd] at hc0
      rw [show ad.add 1 = ⟨ad.block, ad.off + 1, none⟩ from rfl] at hc1
      rw [show ad.add 2 = ⟨ad.block, ad.off + 2, none⟩ from rfl] at hc2
      rw [show ad.add 3 = ⟨ad.block, ad.off + 3, none⟩ from rfl] at hc3
      simp only [byt] at hc0 hc1 hc2 hc3
      have y0 := x0.toNat_lt
      have y1 := x1.toNat_lt
      have y2 := x2.toNat_lt
      have y3 := x3.toNat_lt
      generalize x0.toNat = z0 at hc0 y0 ⊢
      generalize x1.toNat = z1 at hc1 y1 ⊢
      generalize x2.toNat = z2 at hc2 y2 ⊢
      generalize x3.toNat = z3 at hc3 y3 ⊢
      have w0 := wrap_of (z0 : Int) (by omega) (by omega)
      have w1 := wrap_of (z1 : Int) (by omega) (by omega)
      have w2 := wrap_of (z2 : Int) (by omega) (by omega)
      have w3 := wrap_of (z3 : Int) (by omega) (by omega)
      have u0 := wrap_of ((z0 : Int) * 16777216) (by omega) (by omega)
      have u1 := wrap_of ((z1 : Int) * 65536) (by omega) (by omega)
      have u2 := wrap_of ((z2 : Int) * 256) (by omega) (by omega)
      obtain ⟨s1, hs1, o1⟩ : ∃ s1 : Int, Hid (s1 = (z0 : Int) * 16777216 + (z1 : Int) * 65536) ∧ bits .or .i64 ((z0 : Int) * 16777216) ((z1 : Int) * 65536) = s1 := ⟨_, hid rfl, by
        have := or_add 24 (z1 * 65536) z0 (by omega) (by omega)
        rw [show ((2 ^ 24 * z0 : Nat) : Int) = (z0 : Int) * 16777216 by omega, show ((z1 * 65536 : Nat) : Int) = (z1 : Int) * 65536 by omega] at this
        rw [this]; omega⟩
      obtain ⟨s2, hs2, o2⟩ : ∃ s2 : Int, Hid (s2 = (z0 : Int) * 16777216 + (z1 : Int) * 65536 + (z2 : Int) * 256) ∧ bits .or .i64 s1 ((z2 : Int) * 256) = s2 := ⟨_, hid rfl, by
        have := or_add 16 (z2 * 256) (z0 * 256 + z1) (by omega) (by omega)
        rw [show ((2 ^ 16 * (z0 * 256 + z1) : Nat) : Int) = s1 by have := hs1.out; omega, show ((z2 * 256 : Nat) : Int) = (z2 : Int) * 256 by omega] at this
        rw [this]; omega⟩
      obtain ⟨s3, hs3, o3⟩ : ∃ s3 : Int, Hid (s3 = (z0 : Int) * 16777216 + (z1 : Int) * 65536 + (z2 : Int) * 256 + z3) ∧ bits .or .i64 s2 (z3 : Int) = s3 := ⟨_, hid rfl, by
        have := or_add 8 z3 (z0 * 65536 + z1 * 256 + z2) (by omega) (by omega)
        rw [show ((2 ^ 8 * (z0 * 65536 + z1 * 256 + z2) : Nat) : Int) = s2 by have := hs2.out; omega] at this
        rw [this]; omega⟩
      rw [show ((z0 : Int) * 256 * 256 + z1 * 256 + z2) * 256 + z3 = s3 by have := hs3.out; omega]
      clear hs1 hs2 hs3
      by_cases hx : (most : Int) < s3
      · have e : sizeOf' (s3, (k : Int) + 4, 0) most = (0, 0, 2) := by rw [sizeOf', if_pos ⟨rfl, hx⟩]
        rw [e]
        clear hr h e
        go_enter Try.func47, Try.ntmps47
        go_wp2_with fail
        refine ht.mono ?_
        rintro e w' ⟨rfl, rfl⟩
        go_wp2_with fail
        go_quiet (fail)
        go_wp2_with fail
        go_ret3
        exact ⟨rfl, _, rfl⟩
      · have e : sizeOf' (s3, (k : Int) + 4, 0) most = (s3, (k : Int) + 4, 0) := by rw [sizeOf', if_neg (fun hh => hx hh.2)]
        rw [e]
        clear hr h e
        go_enter Try.func47, Try.ntmps47
        go_wp2_with fail
        refine ht.mono ?_
        rintro e w' ⟨rfl, rfl⟩
        go_wp2_with fail
        go_quiet (fail)
        go_wp2_with fail
        go_ret3
        exact ⟨rfl, _, rfl⟩
end Go.Proofs.Ytkmeoobbjdbhjaa


namespace Go.Proofs.Ytkmeoobbjdbhjaa
open Go.RowKit Go.Cov
set_option maxHeartbeats 400000 in
theorem putbytes_ok {A : Option Addr} {c : Nat} {l : List UInt8} {w : World} (h : Rd w A (l.map byt)) (hl : l.length ≤ 65536) :
    Calls Try.prog 42 #[.slice A l.length c] w fun e w' => ∃ v, e = .returned (.tuple #[v, .int .i64 0]) ∧ w'.ownsRow w.heap.size 5 1 v (tx l).length ((tx l).map byt) ∧ Below w.heap.size w w' := by
  have q : ¬ (65536 < l.length) := by omega
  rw [tx_length, tx, List.map_append]
  go_enter Try.func42, Try.ntmps42
  go_wp2_with fail
  refine (putint_any l.length 4 (by omega) w).mono ?_
  rintro e w1 ⟨v1, rfl, hown1, hb1⟩
  have h1 := h.below hb1
  go_wp2_with (at_builtin; refine wpList_app rfl (.tmp 9) (.tmp 10) 23 rfl w.heap.size 5 Try.underlying23 infoB rfl (by decide) v1 4 _ rfl hown1 A l.length c (l.map byt) rfl (by simp) h1 (byt_one l) (by omega) (by omega) hb1.size ?_; intro v2 w2 hin2 hg2 hat2; have hb2 : Below w.heap.size w w2 := (hb1.grown hg2 hb1.size (by intro k hk; exact (own_lt hown1 hk).1)))
  go_ret2
  exact ⟨_, rfl, hin2, hb2⟩
theorem putbytes_no {A : Option Addr} {c n : Nat} {w : World} (hl : 65536 < n) :
    Calls Try.prog 42 #[.slice A n c] w fun e w' => e = .returned (.tuple #[.slice none 0 0, .int .i64 2]) ∧ w = w' := by
  go_enter Try.func42, Try.ntmps42
  go_wp2_with fail
  go_ret2
  exact ⟨rfl, rfl⟩
set_option maxHeartbeats 400000 in
theorem rputbytes_ok {A : Option Addr} {c : Nat} {l : List UInt8} {w : World} (h : Rd w A (l.map byt)) (hl : l.length ≤ 65536) :
    Calls Try.prog 46 #[.slice A l.length c] w fun e w' => ∃ v, e = .returned (.tuple #[v, .int .i64 0]) ∧ w'.ownsRow w.heap.size 5 1 v (tx l).length ((tx l).map byt) ∧ Below w.heap.size w w' := by
  have q : ¬ (65536 < l.length) := by omega
  rw [tx_length, tx, List.map_append]
  go_enter Try.func46, Try.ntmps46
  go_wp2_with fail
  refine (four_any l.length (by omega) w).mono ?_
  rintro e w1 ⟨v1, rfl, hown1, hb1⟩
  have h1 := h.below hb1
  go_wp2_with (at_builtin; refine wpList_app rfl (.tmp 9) (.tmp 10) 23 rfl w.heap.size 5 Try.underlying23 infoB rfl (by decide) v1 4 _ rfl hown1 A l.length c (l.map byt) rfl (by simp) h1 (byt_one l) (by omega) (by omega) hb1.size ?_; intro v2 w2 hin2 hg2 hat2; have hb2 : Below w.heap.size w w2 := (hb1.grown hg2 hb1.size (by intro k hk; exact (own_lt hown1 hk).1)))
  go_ret2
  exact ⟨_, rfl, hin2, hb2⟩
theorem rputbytes_no {A : Option Addr} {c n : Nat} {w : World} (hl : 65536 < n) :
    Calls Try.prog 46 #[.slice A n c] w fun e w' => e = .returned (.tuple #[.slice none 0 0, .int .i64 2]) ∧ w = w' := by
  go_enter Try.func46, Try.ntmps46
  go_wp2_with fail
  go_ret2
  exact ⟨rfl, rfl⟩
set_option maxHeartbeats 800000 in
theorem bytes_any {A : Option Addr} {c : Nat} {l : List UInt8} {w : World} (h : Rd w A (l.map byt)) (hc : l.length ≤ c) (hl : l.length ≤ 140737488351236) (a : Int) :
    Calls Try.prog 44 #[.slice A l.length c, .int .i64 a] w fun e w' => ∃ v, e = .returned (.tuple #[v, .int .i64 (bytesR l a).2.1, .int .i64 (bytesR l a).2.2]) ∧ w'.ownsRow w.heap.size 5 1 v (bytesR l a).1.length ((bytesR l a).1.map byt) ∧ Below w.heap.size w w' := by
  have hs := sized_any h hc hl a 65536 65536 rfl
  rcases sizeR_cases l a 65536 with ⟨e, he, hz⟩ | ⟨k, rfl, hk, hm, hz⟩
  · have hne : (e == 0) = false := by rcases he with rfl | rfl | rfl <;> rfl
    have hR : bytesR l a = ([], 0, e) := by rw [bytesR, hz, if_neg (by rcases he with rfl | rfl | rfl <;> decide)]
    rw [hR]
    rw [hz] at hs
    dsimp only at hs ⊢
    clear hR hz
    go_enter Try.func44, Try.ntmps44
    go_wp2_with fail
    refine hs.mono ?_
    rintro e w' ⟨rfl, rfl⟩
    go_wp2_with fail
    go_ret3
    exact ⟨_, rfl, World.ownsRow_nil _ _ _ _, Below.refl _ _⟩
  · rw [hz] at hs
    dsimp only at hs
    generalize hn : nat ((l.drop k).take 4) = n at hm hs hz
    have e2 := wrap_of ((l.length : Int) - ((k : Int) + 4)) (by omega) (by omega)
    by_cases h2 : (l.length : Int) - (k + 4) < n
    · have hR : bytesR l k = ([], 0, 11) := by rw [bytesR, hz, if_pos rfl, if_pos h2]
      rw [hR]
      dsimp only
      clear hR hz hn
      go_enter Try.func44, Try.ntmps44
      go_wp2_with fail
      refine hs.mono ?_
      rintro e w' ⟨rfl, rfl⟩
      go_wp2_with fail
      go_ret3
      exact ⟨_, rfl, World.ownsRow_nil _ _ _ _, Below.refl _ _⟩
    · have hR : bytesR l k = ((l.drop (k + 4)).take n, (k : Int) + 4 + n, 0) := by
        rw [bytesR, hz, if_pos rfl, if_neg h2]
        rw [show ((k : Int) + 4).toNat = k + 4 by omega]; rfl
      rw [hR]
      dsimp only
      clear hR hz hn
      have e3 := wrap_of ((k : Int) + 4 + n) (by omega) (by omega)
      have hr : Rd w (cutA A c (k + 4) 1) (((l.drop (k + 4)).take n).map byt) := by
        have := (h.cutA (k + 4) 1 (c := c) (by simpa using hc)).take n
        simpa using this
      have hsl := fun W => run_slice_mid (P := Try.prog) Try.underlying23 infoB A l.length c (k + 4) (k + 4 + n) .i64 .i64 ((k : Int) + 4) ((k : Int) + 4 + (n : Int)) (by omega) (by omega) (by omega) (by omega) W
      have hdl : ((l.drop (k + 4)).take n).length = n := by simp; omega
      rw [show k + 4 + n - (k + 4) = n by omega] at hsl
      revert hr hsl hdl
      generalize cutA A c (k + 4) 1 = B
      generalize (l.drop (k + 4)).take n = m
      intro hr hsl hdl
      subst hdl
      have hcl := fun C => clone_any (c := C) hr (by omega)
      go_enter Try.func44, Try.ntmps44
      go_wp2_with fail
      refine hs.mono ?_
      rintro e w' ⟨rfl, rfl⟩
      go_wp2_with fail
      refine (hcl _).mono ?_
      rintro e w1 ⟨v1, rfl, hown1, hb1⟩
      go_wp2_with fail
      go_ret3
      exact ⟨_, rfl, hown1, hb1⟩
end Go.Proofs.Ytkmeoobbjdbhjaa


namespace Go.Proofs.Ytkmeoobbjdbhjaa
open Go.RowKit Go.Cov
set_option maxHeartbeats 800000 in
theorem rbytes_any {A : Option Addr} {c : Nat} {l : List UInt8} {w : World} (h : Rd w A (l.map byt)) (hc : l.length ≤ c) (hl : l.length ≤ 140737488351236) (a : Int) :
    Calls Try.prog 48 #[.slice A l.length c, .int .i64 a] w fun e w' => ∃ v, e = .returned (.tuple #[v, .int .i64 (bytesR l a).2.1, .int .i64 (bytesR l a).2.2]) ∧ w'.ownsRow w.heap.size 5 1 v (bytesR l a).1.length ((bytesR l a).1.map byt) ∧ Below w.heap.size w w' := by
  have hs := size_any h hc hl a 65536 65536 rfl
  rcases sizeR_cases l a 65536 with ⟨e, he, hz⟩ | ⟨k, rfl, hk, hm, hz⟩
  · have hne : (e != 0) = true := by rcases he with rfl | rfl | rfl <;> rfl
    have hR : bytesR l a = ([], 0, e) := by rw [bytesR, hz, if_neg (by rcases he with rfl | rfl | rfl <;> decide)]
    rw [hR]
    rw [hz] at hs
    dsimp only at hs ⊢
    clear hR hz
    go_enter Try.func48, Try.ntmps48
    go_wp2_with fail
    refine hs.mono ?_
    rintro e w' ⟨rfl, k, rfl⟩
    go_wp2_with fail
    go_ret3
    exact ⟨_, rfl, World.ownsRow_nil _ _ _ _, below_drewN (Below.refl _ _) k⟩
  · rw [hz] at hs
    dsimp only at hs
    generalize hn : nat ((l.drop k).take 4) = n at hm hs hz
    have e2 := wrap_of ((l.length : Int) - ((k : Int) + 4)) (by omega) (by omega)
    by_cases h2 : (l.length : Int) - (k + 4) < n
    · have hR : bytesR l k = ([], 0, 11) := by rw [bytesR, hz, if_pos rfl, if_pos h2]
      rw [hR]
      dsimp only
      clear hR hz hn
      go_enter Try.func48, Try.ntmps48
      go_wp2_with fail
      refine hs.mono ?_
      rintro e w' ⟨rfl, nd, rfl⟩
      go_wp2_with fail
      go_ret3
      exact ⟨_, rfl, World.ownsRow_nil _ _ _ _, below_drewN (Below.refl _ _) nd⟩
    · have hR : bytesR l k = ((l.drop (k + 4)).take n, (k : Int) + 4 + n, 0) := by
        rw [bytesR, hz, if_pos rfl, if_neg h2]
        rw [show ((k : Int) + 4).toNat = k + 4 by omega]; rfl
      rw [hR]
      dsimp only
      clear hR hz hn
      have e3 := wrap_of ((k : Int) + 4 + n) (by omega) (by omega)
      have hr : Rd w (cutA A c (k + 4) 1) (((l.drop (k + 4)).take n).map byt) := by
        have := (h.cutA (k + 4) 1 (c := c) (by simpa using hc)).take n
        simpa using this
      have hsl := fun W => run_slice_mid (P := Try.prog) Try.underlying23 infoB A l.length c (k + 4) (k + 4 + n) .i64 .i64 ((k : Int) + 4) ((k : Int) + 4 + (n : Int)) (by omega) (by omega) (by omega) (by omega) W
      have hdl : ((l.drop (k + 4)).take n).length = n := by simp; omega
      rw [show k + 4 + n - (k + 4) = n by omega] at hsl
      revert hr hsl hdl
      generalize cutA A c (k + 4) 1 = B
      generalize (l.drop (k + 4)).take n = m
      intro hr hsl hdl
      subst hdl
      go_enter Try.func48, Try.ntmps48
      go_wp2_with fail
      refine hs.mono ?_
      rintro e w' ⟨rfl, nd, hw1⟩
      have hb1 : Below w.heap.size w w' := by subst hw1; exact below_drewN (Below.refl _ _) nd
      have hz1 : w'.heap.size = w.heap.size := by subst hw1; rfl
      have hr1 := hr.below hb1
      have Hz1 := hid hz1
      clear hw1 hz1
      have hown : (w'.alloc (.cells #[] 5)).ownsRow w'.heap.size 5 1 (.slice (some ⟨w'.heap.size, 0, none⟩) 0 0) 0 [] := World.ownsRow_made w' #[] 0 (Nat.le_refl _) (by simp [maxLen]) rfl
      go_wp2_with (at_builtin; refine wpList_app rfl (.tmp 26) (.tmp 32) 23 rfl w'.heap.size 5 Try.underlying23 infoB rfl (by decide) (.slice (some ⟨w'.heap.size, 0, none⟩) 0 0) 0 _ rfl hown B m.length _ (m.map byt) rfl (by simp) (hr1.alloc _) (byt_one m) (by omega) (by omega) (by simp) ?_; intro v2 w2 hin2 hg2 hat2; simp only [Nat.zero_add, List.nil_append] at hin2; have hb2 : Below w'.heap.size w' w2 := ((below_alloc w' _).grown hg2 (by simp) (by intro k hk; simp [Value.ownBlock] at hk; omega)))
      go_ret3
      rw [Hz1.out] at hin2 hb2
      exact ⟨_, rfl, hin2, hb1.trans hb2⟩
end Go.Proofs.Ytkmeoobbjdbhjaa


namespace Go.Proofs.Ytkmeoobbjdbhjaa
open Go.RowKit Go.Cov
set_option maxHeartbeats 800000 in
theorem putrow_any {A : Option Addr} {c : Nat} {ls : List (List UInt8)} {w : World} (h : RowRd w A ls) (hl : ls.length ≤ 140737488351236) :
    Calls Try.prog 32 #[.slice A ls.length c] w fun e w' => ∃ v, e = .returned (.tuple #[v, .int .i64 (putRowR ls).2]) ∧ w'.ownsRow w.heap.size 5 1 v (putRowR ls).1.length ((putRowR ls).1.map byt) ∧ Below w.heap.size w w' := by
  by_cases hm : 1024 < ls.length
  · rw [putRowR_many hm]
    dsimp only
    go_enter Try.func32, Try.ntmps32
    go_wp2_with fail
    go_ret2
    exact ⟨_, rfl, World.ownsRow_nil _ _ _ _, Below.refl _ _⟩
  · have h4 := rwTo_zero ls
    have Hl := hid (be_length 4 ls.length)
    go_enter Try.func32, Try.ntmps32
    go_wp2_with fail
    refine (putint_any ls.length 4 (by omega) w).mono ?_
    rintro e w1 ⟨v1, rfl, hown1, hb1⟩
    rw [← h4] at hown1
    clear h4
    go_wp2_with fail
    go_loopw [4, 17] (fun v i W => ∃ (k : Nat), k ≤ ls.length ∧ i = .int .i64 k ∧ (∀ i, (h : i < ls.length) → i < k → ls[i].length ≤ 65536) ∧ W.ownsRow w.heap.size 5 1 v (rwTo ls k).length ((rwTo ls k).map byt) ∧ Below w.heap.size w W) (fun _ i _ => ls.length - (intOf i).toNat)
    case atStart => exact ⟨0, Nat.zero_le _, rfl, fun i hi hlt => by omega, by rw [rwTo_zero, Hl.out, ← rwTo_zero]; exact hown1, hb1⟩
    case round =>
      obtain ⟨k, hk, rfl, hall, hown, hb⟩ := hrel
      by_cases hlt : k < ls.length
      · obtain ⟨ad, B, d, rfl, hcell, hd, hdm, hr⟩ := h.at' k hlt
        have hle := rwTo_le ls k hk hall
        have hcell' := (hb.cell (cell_lt hcell)).trans hcell
        clear hcell
        have hr' := hr.below hb
        by_cases hx : ls[k].length ≤ 65536
        · have hs := hid (rwTo_succ ls k hlt)
          have hall2 : ∀ i, (h : i < ls.length) → i < k + 1 → ls[i].length ≤ 65536 := fun i hi h => by
            by_cases he : i = k
            · subst he; exact hx
            · exact hall i hi (by omega)
          have hput := putbytes_ok (c := d) hr' hx
          have Hall := hid hall2
          clear hall hall2
          generalize ls[k] = t at hcell' hr' hx hs hput hd
          go_wp2_with fail
          refine hput.mono ?_
          rintro e w2 ⟨v2, rfl, hown2, hb2⟩
          have hown' := own_below hown hb2
          obtain ⟨A2, c2, rfl, hc2, _⟩ := own_shape hown2
          have ht := tx_length t
          have Ht := hid ht
          clear ht
          go_wp2_with (at_builtin; refine wpList_app rfl (.tmp 29) (.tmp 30) 23 rfl w.heap.size 5 Try.underlying23 infoB rfl (by decide) _ _ _ rfl hown' A2 (tx t).length c2 ((tx t).map byt) rfl (by simp) (own_rd hown2) (byt_one _) (by have := Ht.out; omega) (by have := Ht.out; omega) (by have := hb.size; have := hb2.size; omega) ?_; intro v3 w3 hin3 hg3 hat3; have hb3 : Below w.heap.size w w3 := ((hb.trans (hb2.mono hb.size)).grown hg3 (by have := hb.size; have := hb2.size; omega) (by intro k hk; exact (own_lt hown' hk).1)))
          go_roundw
          case rel => exact ⟨k + 1, by omega, by go_num, Hall.out, by rw [hs.out, List.length_append, List.map_append]; exact hin3, hb3⟩
          case measure => simp [intOf]; omega
        · have hno := putRowR_no k hlt (by omega)
          have hput := putbytes_no (A := B) (c := d) (w := wr) (n := ls[k].length) (by omega)
          generalize ls[k].length = t at hcell' hput
          have Hno := hid hno
          clear hno
          go_wp2_with fail
          refine hput.mono ?_
          rintro e w2 ⟨rfl, rfl⟩
          go_wp2_with fail
          go_ret2
          rw [Hno.out]
          exact ⟨_, rfl, World.ownsRow_nil _ _ _ _, hb⟩
      · obtain rfl : k = ls.length := by omega
        have Hok := hid (putRowR_ok (by omega) (fun i hi => hall i hi hi))
        rw [rwTo_all] at hown
        clear hall
        go_wp2_with fail
        go_ret2
        rw [Hok.out]
        exact ⟨_, rfl, hown, hb⟩
end Go.Proofs.Ytkmeoobbjdbhjaa


namespace Go.Proofs.Ytkmeoobbjdbhjaa
open Go.RowKit Go.Cov
set_option maxHeartbeats 800000 in
theorem rputrow_any {A : Option Addr} {c : Nat} {ls : List (List UInt8)} {w : World} (h : RowRd w A ls) (hl : ls.length ≤ 140737488351236) :
    Calls Try.prog 35 #[.slice A ls.length c] w fun e w' => ∃ v, e = .returned (.tuple #[v, .int .i64 (putRowR ls).2]) ∧ w'.ownsRow w.heap.size 5 1 v (putRowR ls).1.length ((putRowR ls).1.map byt) ∧ Below w.heap.size w w' := by
  by_cases hm : 1024 < ls.length
  · rw [putRowR_many hm]
    dsimp only
    go_enter Try.func35, Try.ntmps35
    go_wp2_with fail
    go_ret2
    exact ⟨_, rfl, World.ownsRow_nil _ _ _ _, Below.refl _ _⟩
  · have h4 := rwTo_zero ls
    have Hl := hid (be_length 4 ls.length)
    go_enter Try.func35, Try.ntmps35
    go_wp2_with fail
    refine (four_any ls.length (by omega) w).mono ?_
    rintro e w1 ⟨v1, rfl, hown1, hb1⟩
    rw [← h4] at hown1
    clear h4
    go_wp2_with fail
    go_loopw [4, 5] (fun v i W => ∃ (k : Nat), k ≤ ls.length ∧ i = .int .i64 k ∧ (∀ i, (h : i < ls.length) → i < k → ls[i].length ≤ 65536) ∧ W.ownsRow w.heap.size 5 1 v (rwTo ls k).length ((rwTo ls k).map byt) ∧ Below w.heap.size w W) (fun _ i _ => ls.length - (intOf i).toNat)
    case atStart => exact ⟨0, Nat.zero_le _, rfl, fun i hi hlt => by omega, by rw [rwTo_zero, Hl.out, ← rwTo_zero]; exact hown1, hb1⟩
    case round =>
      obtain ⟨k, hk, rfl, hall, hown, hb⟩ := hrel
      by_cases hlt : k < ls.length
      · obtain ⟨ad, B, d, rfl, hcell, hd, hdm, hr⟩ := h.at' k hlt
        have hle := rwTo_le ls k hk hall
        have hcell' := (hb.cell (cell_lt hcell)).trans hcell
        clear hcell
        have hr' := hr.below hb
        by_cases hx : ls[k].length ≤ 65536
        · have hs := hid (rwTo_succ ls k hlt)
          have hall2 : ∀ i, (h : i < ls.length) → i < k + 1 → ls[i].length ≤ 65536 := fun i hi h => by
            by_cases he : i = k
            · subst he; exact hx
            · exact hall i hi (by omega)
          have hput := rputbytes_ok (c := d) hr' hx
          have Hall := hid hall2
          clear hall hall2
          generalize ls[k] = t at hcell' hr' hx hs hput hd
          go_wp2_with fail
          refine hput.mono ?_
          rintro e w2 ⟨v2, rfl, hown2, hb2⟩
          have hown' := own_below hown hb2
          obtain ⟨A2, c2, rfl, hc2, _⟩ := own_shape hown2
          have ht := tx_length t
          have Ht := hid ht
          clear ht
          go_wp2_with (at_builtin; refine wpList_app rfl (.tmp 31) (.tmp 32) 23 rfl w.heap.size 5 Try.underlying23 infoB rfl (by decide) _ _ _ rfl hown' A2 (tx t).length c2 ((tx t).map byt) rfl (by simp) (own_rd hown2) (byt_one _) (by have := Ht.out; omega) (by have := Ht.out; omega) (by have := hb.size; have := hb2.size; omega) ?_; intro v3 w3 hin3 hg3 hat3; have hb3 : Below w.heap.size w w3 := ((hb.trans (hb2.mono hb.size)).grown hg3 (by have := hb.size; have := hb2.size; omega) (by intro k hk; exact (own_lt hown' hk).1)))
          go_roundw
          case rel => exact ⟨k + 1, by omega, by go_num, Hall.out, by rw [hs.out, List.length_append, List.map_append]; exact hin3, hb3⟩
          case measure => simp [intOf]; omega
        · have hno := putRowR_no k hlt (by omega)
          have hput := rputbytes_no (A := B) (c := d) (w := wr) (n := ls[k].length) (by omega)
          generalize ls[k].length = t at hcell' hput
          have Hno := hid hno
          clear hno
          go_wp2_with fail
          refine hput.mono ?_
          rintro e w2 ⟨rfl, rfl⟩
          go_wp2_with fail
          go_ret2
          rw [Hno.out]
          exact ⟨_, rfl, World.ownsRow_nil _ _ _ _, hb⟩
      · obtain rfl : k = ls.length := by omega
        have Hok := hid (putRowR_ok (by omega) (fun i hi => hall i hi hi))
        rw [rwTo_all] at hown
        clear hall
        go_wp2_with fail
        go_ret2
        rw [Hok.out]
        exact ⟨_, rfl, hown, hb⟩
end Go.Proofs.Ytkmeoobbjdbhjaa


namespace Go.Proofs.Ytkmeoobbjdbhjaa
open Go.RowKit Go.Cov
theorem infoR : (Try.prog.info? 23).map (fun i => (i.zero, i.size, i.bytes)) = some (some (.slice none 0 0), 1, 24) := by kernel_rfl
/-- what holds at each round's head of 'Row' -/
def RowAt (l : List UInt8) (R : List (List UInt8) × Int × Int) (base n k : Nat) (p er : Int) (v : Value) (W : World) : Prop :=
  (er = 0 ∧ ∃ acc : List (List UInt8), acc.length = k ∧ OwnRows W base 23 v acc ∧ R = preRow acc (rowGo l (n - k) p)) ∨ (er ≠ 0 ∧ R = ([], 0, er))
set_option maxHeartbeats 1600000 in
theorem row_any {A : Option Addr} {c : Nat} {l : List UInt8} {w : World} (h : Rd w A (l.map byt)) (hc : l.length ≤ c) (hl : l.length ≤ 140737488351236) (a : Int) :
    Calls Try.prog 33 #[.slice A l.length c, .int .i64 a] w fun e w' => ∃ v, e = .returned (.tuple #[v, .int .i64 (rowR l a).2.1, .int .i64 (rowR l a).2.2]) ∧ OwnRows w' w.heap.size 23 v (rowR l a).1 ∧ Below w.heap.size w w' := by
  have hs := sized_any h hc hl a 1024 1024 rfl
  obtain ⟨n, p0, er0, hz, hn, hR⟩ : ∃ (n : Nat) (p0 er0 : Int), sizeR l a 1024 = ((n : Int), p0, er0) ∧ n ≤ 1024 ∧ (er0 = 0 ∧ rowR l a = rowGo l n p0 ∨ er0 ≠ 0 ∧ n = 0 ∧ rowR l a = ([], 0, er0)) := by
    rcases sizeR_cases l a 1024 with ⟨e, he, hz⟩ | ⟨k, rfl, hk, hm, hz⟩
    · have he0 : e ≠ 0 := by rcases he with rfl | rfl | rfl <;> decide
      exact ⟨0, 0, e, hz, by omega, .inr ⟨he0, rfl, by rw [rowR, hz, if_neg he0]⟩⟩
    · exact ⟨_, _, _, hz, hm, .inl ⟨rfl, by rw [rowR, hz]; rfl⟩⟩
  rw [hz] at hs
  dsimp only at hs
  generalize rowR l a = R at hR ⊢
  clear hz
  rcases hR with ⟨he0, hR⟩ | ⟨he0, hn0, hR⟩
  · subst he0
    have HR := hid hR
    clear hR
    go_enter Try.func33, Try.ntmps33
    go_wp2_with fail
    refine hs.mono ?_
    rintro e w' ⟨rfl, rfl⟩
    go_wp2_with fail
    go_loopw [8, 9, 10, 11] (fun p er v i W => ∃ (k : Nat) (p' er' : Int) (v' : Value), k ≤ n ∧ i = .int .i64 k ∧ p = .int .i64 p' ∧ er = .int .i64 er' ∧ v' = v ∧ RowAt l R w.heap.size n k p' er' v' W ∧ Below w.heap.size w W) (fun _ _ _ i _ => n - (intOf i).toNat)
    case atStart => exact ⟨0, p0, 0, _, Nat.zero_le _, rfl, rfl, rfl, rfl, .inl ⟨rfl, [], rfl, OwnRows.nil _ _ _, by rw [HR.out, Nat.sub_zero, rowGo_pre]⟩, Below.refl _ _⟩
    case round =>
      obtain ⟨k, p, er, v, hk, rfl, rfl, rfl, rfl, hat, hb⟩ := hrel
      rcases hat with ⟨rfl, acc, hacc, hown, hRk⟩ | ⟨her, hRe⟩
      · by_cases hlt : k < n
        · have hbt := bytes_any (h.below hb) hc hl p
          generalize hg : bytesR l p = g at hbt
          obtain ⟨t, q, er⟩ := g
          dsimp only at hbt
          by_cases her : er = 0
          · subst her
            have hst := hid (preRow_step (acc := acc) hlt hg)
            have HRk := hid hRk
            have Hacc := hid hacc
            clear hRk hacc hg
            go_wp2_with fail
            refine hbt.mono ?_
            rintro e w2 ⟨v2, rfl, hown2, hb2⟩
            obtain ⟨A2, c2, rfl, hc2, hm2, _⟩ := own_shape hown2
            have r2 := own_rd hown2
            have hown' := (hown.below hb2).below (below_alloc w2 (.cells #[.slice A2 t.length c2] 23))
            have hbk : ∀ kk, v.ownBlock = some kk → kk < wr.heap.size := fun kk hkk => by obtain ⟨vs, h1, _⟩ := hown; exact (own_lt h1 hkk).2
            have hbb : ∀ kk, v.ownBlock = some kk → w.heap.size ≤ kk := fun kk hkk => by obtain ⟨vs, h1, _⟩ := hown; exact (own_lt h1 hkk).1
            obtain ⟨vs, h1, h2⟩ := hown'
            have hA2 : ∀ ad, A2 = some ad → w.heap.size ≤ ad.block ∧ ad.block < (w2.alloc (.cells #[.slice A2 t.length c2] 23)).heap.size ∧ some ad.block ≠ v.ownBlock := fun ad hA => by
              have hl2 := own_lt hown2 (k := ad.block) (by rw [hA]; rfl)
              refine ⟨by have := hb.size; omega, by simp; omega, fun hh => ?_⟩
              have := hbk _ hh.symm
              omega
            have H2 := hid h2
            have HA2 := hid hA2
            clear h2 hA2
            go_wp2_with (at_builtin; refine wpList_app rfl (.tmp 38) (.tmp 40) 50 rfl w.heap.size 23 Try.underlying50 infoR rfl (by decide) v acc.length vs rfl h1 (some ⟨w2.heap.size, 0, none⟩) 1 1 [.slice A2 t.length c2] rfl rfl (rd_box w2 #[.slice A2 t.length c2] 23) (by intro u hu; simp at hu; subst hu; rfl) (by have := Hacc.out; omega) (by have := Hacc.out; omega) (by have := hb.size; have := hb2.size; simp; omega) ?_; intro v3 w3 hin3 hg3 hat3; have hb3 : Below w.heap.size w w3 := (((hb.trans (hb2.mono hb.size)).alloc (by have := hb.size; have := hb2.size; omega) _).grown hg3 (by have := hb.size; have := hb2.size; simp; omega) hbb); have hnew := OwnRows.app H2.out (by have := h1.1; omega) hin3 hg3 hat3 hc2 hm2 (r2.alloc _) HA2.out)
            go_roundw
            case rel => exact ⟨k + 1, q, 0, _, by omega, by go_num, rfl, rfl, rfl, .inl ⟨rfl, acc ++ [t], by simp [Hacc.out], hnew, by rw [HRk.out, hst.out]⟩, hb3⟩
            case measure => simp [intOf]; omega
          · have hst := hid (preRow_stop (acc := acc) hlt hg her)
            have HRk := hid hRk
            have Hacc := hid hacc
            clear hRk hacc hg
            have her2 : (er == 0) = false := by simpa using her
            go_wp2_with fail
            refine hbt.mono ?_
            rintro e w2 ⟨v2, rfl, hown2, hb2⟩
            go_wp2_with fail
            go_roundw
            case rel => exact ⟨k + 1, q, er, _, by omega, by go_num, rfl, rfl, rfl, .inr ⟨her, by rw [HRk.out, hst.out]⟩, hb.trans (hb2.mono hb.size)⟩
            case measure => simp [intOf]; omega
        · obtain rfl : k = n := by omega
          have HRk := hid hRk
          clear hRk hacc
          go_wp2_with fail
          go_ret3
          rw [HRk.out, Nat.sub_self, rowGo, preRow_ok, List.append_nil]
          exact ⟨_, rfl, hown, hb⟩
      · have her2 : (er == 0) = false := by simpa using her
        have her3 : (er != 0) = true := by simpa using her
        have HRe := hid hRe
        clear hRe
        by_cases hlt : k < n
        · go_wp2_with fail
          go_ret3
          rw [HRe.out]
          exact ⟨_, rfl, OwnRows.nil _ _ _, hb⟩
        · go_wp2_with fail
          go_ret3
          rw [HRe.out]
          exact ⟨_, rfl, OwnRows.nil _ _ _, hb⟩
  · subst hn0
    have HR := hid hR
    clear hR
    have her3 : (er0 != 0) = true := by simpa using he0
    go_enter Try.func33, Try.ntmps33
    go_wp2_with fail
    refine hs.mono ?_
    rintro e w' ⟨rfl, rfl⟩
    go_wp2_with fail
    go_loopw [8, 9, 10, 11] (fun p er v i W => i = .int .i64 0 ∧ er = .int .i64 er0 ∧ W = w) (fun _ _ _ i _ => 0)
    case atStart => exact ⟨rfl, rfl, rfl⟩
    case round =>
      obtain ⟨rfl, rfl, rfl⟩ := hrel
      go_wp2_with fail
      go_ret3
      rw [HR.out]
      exact ⟨_, rfl, OwnRows.nil _ _ _, Below.refl _ _⟩
end Go.Proofs.Ytkmeoobbjdbhjaa


namespace Go.Proofs.Ytkmeoobbjdbhjaa
open Go.RowKit Go.Cov
set_option maxHeartbeats 1600000 in
theorem rrow_any {A : Option Addr} {c : Nat} {l : List UInt8} {w : World} (h : Rd w A (l.map byt)) (hc : l.length ≤ c) (hl : l.length ≤ 140737488351236) (a : Int) :
    Calls Try.prog 36 #[.slice A l.length c, .int .i64 a] w fun e w' => ∃ v, e = .returned (.tuple #[v, .int .i64 (rowR l a).2.1, .int .i64 (rowR l a).2.2]) ∧ OwnRows w' w.heap.size 23 v (rowR l a).1 ∧ Below w.heap.size w w' := by
  have hs := size_any h hc hl a 1024 1024 rfl
  rcases sizeR_cases l a 1024 with ⟨e, he, hz⟩ | ⟨k0, rfl, hk0, hm, hz⟩
  · have he0 : e ≠ 0 := by rcases he with rfl | rfl | rfl <;> decide
    have her3 : (e != 0) = true := by simpa using he0
    have hR : rowR l a = ([], 0, e) := by rw [rowR, hz, if_neg he0]
    rw [hz] at hs
    dsimp only at hs
    rw [hR]
    dsimp only
    clear hR hz he
    go_enter Try.func36, Try.ntmps36
    go_wp2_with fail
    refine hs.mono ?_
    rintro e w' ⟨rfl, nd, rfl⟩
    go_wp2_with fail
    go_ret3
    exact ⟨_, rfl, OwnRows.nil _ _ _, below_drewN (Below.refl _ _) nd⟩
  · have hR : rowR l k0 = rowGo l (nat ((l.drop k0).take 4)) ((k0 : Int) + 4) := by rw [rowR, hz]; rfl
    rw [hz] at hs
    dsimp only at hs
    generalize nat ((l.drop k0).take 4) = n at hm hs hR
    generalize (k0 : Int) + 4 = p0 at hs hR
    generalize rowR l k0 = R at hR ⊢
    have HR := hid hR
    clear hR hz
    go_enter Try.func36, Try.ntmps36
    go_wp2_with fail
    refine hs.mono ?_
    rintro e w0 ⟨rfl, nd, hw0⟩
    have hb0 : Below w.heap.size w w0 := by subst hw0; exact below_drewN (Below.refl _ _) nd
    clear hw0
    go_wp2_with fail
    go_loopw [8, 10, 11] (fun p v i W => ∃ (k : Nat) (p' : Int) (v' : Value) (acc : List (List UInt8)), k ≤ n ∧ i = .int .i64 k ∧ p = .int .i64 p' ∧ v' = v ∧ acc.length = k ∧ OwnRows W w.heap.size 23 v' acc ∧ R = preRow acc (rowGo l (n - k) p') ∧ Below w.heap.size w W) (fun _ _ i _ => n - (intOf i).toNat)
    case atStart => exact ⟨0, p0, _, [], Nat.zero_le _, rfl, rfl, rfl, rfl, OwnRows.nil _ _ _, by rw [HR.out, Nat.sub_zero, rowGo_pre], hb0⟩
    case round =>
      obtain ⟨k, p, v, acc, hk, rfl, rfl, rfl, hacc, hown, hRk, hb⟩ := hrel
      by_cases hlt : k < n
      · have hbt := rbytes_any (h.below hb) hc hl p
        generalize hg : bytesR l p = g at hbt
        obtain ⟨t, q, er⟩ := g
        dsimp only at hbt
        by_cases her : er = 0
        · subst her
          have hst := hid (preRow_step (acc := acc) hlt hg)
          have HRk := hid hRk
          have Hacc := hid hacc
          clear hRk hacc hg
          go_wp2_with fail
          refine hbt.mono ?_
          rintro e w2 ⟨v2, rfl, hown2, hb2⟩
          obtain ⟨A2, c2, rfl, hc2, hm2, _⟩ := own_shape hown2
          have r2 := own_rd hown2
          have hown' := (hown.below hb2).below (below_alloc w2 (.cells #[.slice A2 t.length c2] 23))
          have hbk : ∀ kk, v.ownBlock = some kk → kk < wr.heap.size := fun kk hkk => by obtain ⟨vs, h1, _⟩ := hown; exact (own_lt h1 hkk).2
          have hbb : ∀ kk, v.ownBlock = some kk → w.heap.size ≤ kk := fun kk hkk => by obtain ⟨vs, h1, _⟩ := hown; exact (own_lt h1 hkk).1
          obtain ⟨vs, h1, h2⟩ := hown'
          have hA2 : ∀ ad, A2 = some ad → w.heap.size ≤ ad.block ∧ ad.block < (w2.alloc (.cells #[.slice A2 t.length c2] 23)).heap.size ∧ some ad.block ≠ v.ownBlock := fun ad hA => by
            have hl2 := own_lt hown2 (k := ad.block) (by rw [hA]; rfl)
            refine ⟨by have := hb.size; omega, by simp; omega, fun hh => ?_⟩
            have := hbk _ hh.symm
            omega
          have H2 := hid h2
          have HA2 := hid hA2
          clear h2 hA2
          go_wp2_with (at_builtin; refine wpList_app rfl (.tmp 40) (.tmp 42) 50 rfl w.heap.size 23 Try.underlying50 infoR rfl (by decide) v acc.length vs rfl h1 (some ⟨w2.heap.size, 0, none⟩) 1 1 [.slice A2 t.length c2] rfl rfl (rd_box w2 #[.slice A2 t.length c2] 23) (by intro u hu; simp at hu; subst hu; rfl) (by have := Hacc.out; omega) (by have := Hacc.out; omega) (by have := hb.size; have := hb2.size; simp; omega) ?_; intro v3 w3 hin3 hg3 hat3; have hb3 : Below w.heap.size w w3 := (((hb.trans (hb2.mono hb.size)).alloc (by have := hb.size; have := hb2.size; omega) _).grown hg3 (by have := hb.size; have := hb2.size; simp; omega) hbb); have hnew := OwnRows.app H2.out (by have := h1.1; omega) hin3 hg3 hat3 hc2 hm2 (r2.alloc _) HA2.out)
          go_roundw
          case rel => exact ⟨k + 1, q, _, acc ++ [t], by omega, by go_num, rfl, rfl, by simp [Hacc.out], hnew, by rw [HRk.out, hst.out], hb3⟩
          case measure => simp [intOf]; omega
        · have hst := hid (preRow_stop (acc := acc) hlt hg her)
          have HRk := hid hRk
          clear hRk hacc hg
          have her2 : (er != 0) = true := by simpa using her
          go_wp2_with fail
          refine hbt.mono ?_
          rintro e w2 ⟨v2, rfl, hown2, hb2⟩
          go_wp2_with fail
          go_ret3
          rw [HRk.out, hst.out]
          exact ⟨_, rfl, OwnRows.nil _ _ _, hb.trans (hb2.mono hb.size)⟩
      · obtain rfl : k = n := by omega
        have HRk := hid hRk
        clear hRk hacc
        go_wp2_with fail
        go_ret3
        rw [HRk.out, Nat.sub_self, rowGo, preRow_ok, List.append_nil]
        exact ⟨_, rfl, hown, hb⟩
end Go.Proofs.Ytkmeoobbjdbhjaa

