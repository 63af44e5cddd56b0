import Derived.Test.YtfeclopdagbngaaMailI
import Derived.Deep.QuietTactic
import Derived.BigQuiet
namespace Go.Proofs.Ytfeclopdagbngaa
open Go.RowKit Go.Conc Go.Cov

/-- the reference's box: its struct's block g, what it holds -/
structure RefB (W : World) (B g room : Nat) (v : Value) (l : List Int) : Prop where
  blk : W.heap[g]? = some (.cells #[v, .int .i64 room] 47 (0, 0))
  own : W.ownsRow B 2 1 v l.length (iv l)
  lt : g < B ∧ B ≤ W.heap.size
theorem RefB.c0 {W : World} {B g room : Nat} {v : Value} {l : List Int} (h : RefB W B g room v l) : W.cell? ⟨g, 0, none⟩ = some v := by
  rw [cell_of_row W g 0 _ 47 (0, 0) h.blk]; rfl
theorem RefB.c1 {W : World} {B g room : Nat} {v : Value} {l : List Int} (h : RefB W B g room v l) : W.cell? ⟨g, 1, none⟩ = some (.int .i64 room) := by
  rw [cell_of_row W g 1 _ 47 (0, 0) h.blk]; rfl
theorem RefB.f0 {W : World} {B g room : Nat} {v : Value} {l : List Int} (h : RefB W B g room v l) : W.frozen? ⟨g, 0, none⟩ = false := by
  simp [World.frozen?, h.blk]
theorem RefB.kept {W W' : World} {B g room : Nat} {v : Value} {l : List Int} (h : RefB W B g room v l) {row : Option Nat} (hg : W.grownBy W' row) (h1 : some g ≠ row) (h2 : ∀ k, row = some k → k < B) : RefB W' B g room v l :=
  ⟨by rw [hg.block g (by have := h.lt; omega) h1]; exact h.blk, h.own.kept hg (by
    cases hv : v.ownBlock with
    | none => exact .inl rfl
    | some k => right; intro hh; have := (own_lt h.own hv).1; have := h2 k hh.symm; omega), h.lt.1, by have := hg.size; have := h.lt; omega⟩
theorem RefB.drewN {W : World} {B g room : Nat} {v : Value} {l : List Int} (h : RefB W B g room v l) (n : Nat) : RefB (W.drewN n) B g room v l := ⟨h.blk, h.own, h.lt⟩

theorem rnew_ok (m : Int) (h1 : 1 ≤ m) (h2 : m ≤ 1024) (w : World) : Calls Try.prog 12 #[.int .i64 m] w fun e w' => e = .returned (.pointer (some ⟨w.heap.size, 0, none⟩)) ∧
    RefB w' (w.heap.size + 1) w.heap.size m.toNat (.slice none 0 0) [] ∧ Below w.heap.size w w' := by
  obtain ⟨n, rfl⟩ := Int.eq_ofNat_of_zero_le (show 0 ≤ m by omega)
  go_enter Try.func12, Try.ntmps12
  go_wp2
  go_ret
  refine ⟨rfl, ⟨?_, World.ownsRow_nil _ _ _ _, by simp⟩, (Below.refl _ _).alloc (Nat.le_refl _) _⟩
  simpa using heap_alloc_new w (.cells #[.slice none 0 0, .int .i64 n] 47)
theorem rnew_no (m : Int) (h : m < 1 ∨ 1024 < m) (w : World) : Calls Try.prog 12 #[.int .i64 m] w fun e w' => e = .returned (.pointer none) ∧ w = w' := by
  rcases h with h | h
  · go_enter Try.func12, Try.ntmps12
    go_wp2
    go_ret
    exact ⟨rfl, rfl⟩
  · have h' : ¬ m < 1 := by omega
    go_enter Try.func12, Try.ntmps12
    go_wp2
    go_ret
    exact ⟨rfl, rfl⟩
theorem rput_no {W : World} {B g room : Nat} {v : Value} {l : List Int} (h : RefB W B g room v l) (x : Int) (hfull : room ≤ l.length) :
    Calls Try.prog 19 #[.pointer (some ⟨g, 0, none⟩), .int .i64 x] W fun e W' => e = .returned (.bool false) ∧ ∃ n, W' = W.drewN n := by
  have c0 := h.c0
  have c1 := h.c1
  obtain ⟨A, c, rfl, _⟩ := own_shape h.own
  go_enter Try.func19, Try.ntmps19
  go_wp2_with fail
  go_quiet (fail)
  go_wp2_with fail
  go_ret
  exact ⟨rfl, _, rfl⟩
theorem rput_yes {W : World} {B g room : Nat} {v : Value} {l : List Int} (h : RefB W B g room v l) (x : Int) (hroom : l.length < room) (hr : room ≤ 1024) :
    Calls Try.prog 19 #[.pointer (some ⟨g, 0, none⟩), .int .i64 x] W fun e W' => e = .returned (.bool true) ∧ ∃ v', RefB W' B g room v' (l ++ [x]) ∧ Below g W W' := by
  have c0 := h.c0
  have c1 := h.c1
  have f0 := h.f0
  have hlt := h.lt
  obtain ⟨A, c, rfl, _⟩ := own_shape h.own
  go_enter Try.func19, Try.ntmps19
  go_wp2_with fail
  go_quiet (fail)
  go_wp2_with (at_builtin; refine wpList_app rfl (.tmp 19) (.tmp 21) 41 rfl B 2 Try.underlying41 info2 rfl (by decide) _ _ _ rfl ((h.drewN nq).own.alloc _) _ 1 1 [.int .i64 x] rfl rfl (rd_box _ _ _) (by simp [Value.oneCell']) (by omega) (by omega) (by simp; omega) ?_; intro v4 w4 hin4 hg4 hat4; obtain ⟨A4, c5, hv4, _⟩ := own_shape hin4; subst hv4; have hb4 : w4.heap[g]? = some (.cells #[.slice A l.length c, .int .i64 room] 47 (0, 0)) := (hg4.block g (by simp; omega) (own_ne h.own hlt.1)).trans ((Below.heap_alloc _ _ g (by simp; omega)).trans h.blk); have c4 : w4.cell? ⟨g, 0, none⟩ = some (.slice A l.length c) := by { rw [cell_of_row w4 g 0 _ 47 (0, 0) hb4]; rfl }; have f4 : w4.frozen? ⟨g, 0, none⟩ = false := by { simp [World.frozen?, hb4] })
  go_ret
  have hs4 := hg4.size
  have hg4' : W.grownBy w4 (Value.slice A l.length c).ownBlock := ⟨hg4.os, hg4.tape, hg4.output, by simp at hs4; omega, fun k hk hne => (hg4.block k (by simp; omega) hne).trans (Below.heap_alloc W _ k hk)⟩
  have hst : w4.grownBy (w4.setCell ⟨g, 0, none⟩ (.slice A4 (l.length + 1) c5)) (some g) := ⟨rfl, rfl, rfl, by simp [World.setCell], fun k _ hne => Below.heap_setCell w4 _ _ k (fun hh => hne (by rw [hh]))⟩
  refine ⟨rfl, .slice A4 (l.length + 1) c5, ⟨?_, ?_, hlt.1, ?_⟩, ?_⟩
  · simp only [World.setCell, Array.getElem?_modify, hb4]
    simp
  · have := hin4.kept hst (.inr (fun hh => own_ne hin4 hlt.1 hh.symm))
    simpa [iv] using this
  · have := hst.size; simp at hs4; omega
  · refine (((Below.refl g W).grown hg4' (by omega) ?_).grown hst (by have := hg4'.size; omega) (by intro k hk; cases hk; omega))
    intro k hk
    have := (own_lt h.own hk).1
    omega
end Go.Proofs.Ytfeclopdagbngaa
