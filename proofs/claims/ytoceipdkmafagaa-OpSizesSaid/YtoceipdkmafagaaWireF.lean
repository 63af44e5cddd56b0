import Derived.Test.YtoceipdkmafagaaWireE
namespace Go.Proofs.Ytoceipdkmafagaa
open Go.RowKit Go.Cov
set_option maxHeartbeats 400000 in
theorem sized_any {A : Option Addr} {c : Nat} {l : List UInt8} {w : World} (h : Rd w A (l.map byt)) (hc : l.length ≤ c) (hl : l.length ≤ 140737488351236) (a : Int) (m : Int) (most : Nat) (hm : m = most) :
    Calls Try.prog 57 #[.slice A l.length c, .int .i64 a, .int .i64 m] w fun e w' => e = .returned (.tuple #[.int .i64 (sizeR l a most).1, .int .i64 (sizeR l a most).2.1, .int .i64 (sizeR l a most).2.2]) ∧ w = w' := by
  have hg := getint_any h hc hl a 4 (by omega)
  unfold sizeR
  revert hg
  generalize getR l a 4 = g
  obtain ⟨x, y, z⟩ := g
  intro hg
  dsimp only at hg
  by_cases hz : z = 0
  · subst hz
    by_cases hx : m < x
    · have e : sizeOf' (x, y, 0) most = (0, 0, 2) := by simp [sizeOf', ← hm, hx]
      rw [e]
      clear e hm
      go_enter Try.func57, Try.ntmps57
      go_wp2_with fail
      refine hg.mono ?_
      rintro e w' ⟨rfl, rfl⟩
      go_wp2_with fail
      go_ret3
      exact ⟨rfl, rfl⟩
    · have e : sizeOf' (x, y, 0) most = (x, y, 0) := by simp [sizeOf', ← hm, hx]
      rw [e]
      clear e hm
      go_enter Try.func57, Try.ntmps57
      go_wp2_with fail
      refine hg.mono ?_
      rintro e w' ⟨rfl, rfl⟩
      go_wp2_with fail
      go_ret3
      exact ⟨rfl, rfl⟩
  · have e : sizeOf' (x, y, z) most = (x, y, z) := by simp [sizeOf', hz]
    rw [e]
    clear e hm
    have hz2 : (z == 0) = false := by simpa using hz
    go_enter Try.func57, Try.ntmps57
    go_wp2_with fail
    refine hg.mono ?_
    rintro e w' ⟨rfl, rfl⟩
    go_wp2_with fail
    go_ret3
    exact ⟨rfl, rfl⟩
theorem clone_any {A : Option Addr} {c : Nat} {l : List UInt8} {w : World} (h : Rd w A (l.map byt)) (hl : l.length ≤ 140737488351236) :
    Calls Try.prog 58 #[.slice A l.length c] w fun e w' => ∃ v, e = .returned v ∧ w'.ownsRow w.heap.size 5 1 v l.length (l.map byt) ∧ Below w.heap.size w w' := by
  have q22 : ∀ (w : World) (a : Option Addr) (n c n' c' : Nat), (binOp .eql 22 (.slice a n c) (.slice none n' c')).run Try.prog w = .ok (.bool a.isNone) w := fun w a n c n' c' => Lib.run_eql_slice_nil w _ _ a n c n' c' Try.underlying22
  cases A with
  | none =>
    have hl0 : l = [] := by
      cases l with
      | nil => rfl
      | cons x l => obtain ⟨ad, hA, _⟩ := h 0 (byt x) rfl; cases hA
    subst hl0
    go_enter Try.func58, Try.ntmps58
    go_wp2_with fail
    go_ret
    exact ⟨_, rfl, World.ownsRow_nil _ _ _ _, Below.refl _ _⟩
  | some ad =>
    have hown : (w.alloc (.cells #[] 5)).ownsRow w.heap.size 5 1 (.slice (some ⟨w.heap.size, 0, none⟩) 0 0) 0 [] := World.ownsRow_made w #[] 0 (Nat.le_refl _) (by simp [maxLen]) rfl
    go_enter Try.func58, Try.ntmps58
    go_wp2_with (at_builtin; refine wpList_app rfl (.tmp 5) (.tmp 6) 22 rfl w.heap.size 5 Try.underlying22 infoB rfl (by decide) (.slice (some ⟨w.heap.size, 0, none⟩) 0 0) 0 _ rfl hown (some ad) l.length c (l.map byt) rfl (by simp) (h.alloc _) (byt_one l) (by omega) (by omega) (by simp) ?_; intro v2 w2 hin2 hg2 hat2; simp only [Nat.zero_add, List.nil_append] at hin2; have hb2 : Below w.heap.size w w2 := ((below_alloc w _).grown hg2 (by simp) (by intro k hk; simp [Value.ownBlock] at hk; omega)))
    go_ret
    exact ⟨_, rfl, hin2, hb2⟩
set_option maxHeartbeats 400000 in
theorem four_any (n : Nat) (hn : n < 4294967296) (w : World) :
    Calls Try.prog 64 #[.int .i64 n] w fun e w' => ∃ v, e = .returned v ∧ w'.ownsRow w.heap.size 5 1 v 4 ((be 4 n).map byt) ∧ Below w.heap.size w w' := by
  have e3 : byt (bt n 3) = .int .u8 ((n : Int) / 16777216) := by unfold byt; rw [bt_int]; exact congrArg (Value.int .u8) (by simp; omega)
  have e2 : byt (bt n 2) = .int .u8 ((n : Int) / 65536 % 256) := by unfold byt; rw [bt_int]; rfl
  have e1 : byt (bt n 1) = .int .u8 ((n : Int) / 256 % 256) := by unfold byt; rw [bt_int]; rfl
  have e0 : byt (bt n 0) = .int .u8 ((n : Int) % 256) := by unfold byt; rw [bt_int, Nat.mul_zero, Int.pow_zero, Int.ediv_one]
  have hbe : (be 4 n).map byt = [.int .u8 ((n : Int) / 16777216), .int .u8 ((n : Int) / 65536 % 256), .int .u8 ((n : Int) / 256 % 256), .int .u8 ((n : Int) % 256)] := by
    simp only [be, List.map_cons, List.map_nil, e3, e2, e1, e0]
  rw [hbe]
  clear hbe e3 e2 e1 e0
  go_enter Try.func64, Try.ntmps64
  go_wp2_with fail
  go_ret
  exact ⟨_, rfl, own_box w 5 #[_, _, _, _] 4 rfl (by simp [maxLen]), below_alloc w _⟩
end Go.Proofs.Ytoceipdkmafagaa
