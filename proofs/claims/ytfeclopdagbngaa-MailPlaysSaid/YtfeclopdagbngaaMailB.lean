import Derived.Test.YtfeclopdagbngaaBase
import Derived.Test.YtfeclopdagbngaaMailA
import Derived.Deep.LoopGhost
namespace Go.Proofs.Ytfeclopdagbngaa
open Go.RowKit Go.Conc Go.Cov

/-- a box: its struct's block b, its channel's block c, room for cap, what waits -/
def Box (w : World) (b c cap : Nat) (t : TypeId) (l : List Value) : Prop :=
  w.heap[b]? = some (.cells #[.chan (some c)] t (0, 0)) ∧ ∃ s r, w.heap[c]? = some (.chan cap l.toArray false s r false)
theorem Box.ne {w : World} {b c cap : Nat} {t : TypeId} {l : List Value} (h : Box w b c cap t l) : b ≠ c := by
  rintro rfl
  obtain ⟨h1, s, r, h2⟩ := h
  rw [h1] at h2; cases h2
theorem Box.cell {w : World} {b c cap : Nat} {t : TypeId} {l : List Value} (h : Box w b c cap t l) : w.cell? ⟨b, 0, none⟩ = some (.chan (some c)) := by
  rw [cell_of_row w b 0 _ t (0, 0) h.1]; rfl
theorem Box.lt {w : World} {b c cap : Nat} {t : TypeId} {l : List Value} (h : Box w b c cap t l) : b < w.heap.size ∧ c < w.heap.size := by
  obtain ⟨h1, s, r, h2⟩ := h
  exact ⟨(Array.getElem?_eq_some_iff.1 h1).1, (Array.getElem?_eq_some_iff.1 h2).1⟩
theorem setChan_grown (w : World) (c cap : Nat) (buf : Array Value) (cl : Bool) (s r : Nat) (tm : Bool) : w.grownBy (w.setChan c cap buf cl s r tm) (some c) :=
  ⟨rfl, rfl, rfl, by simp [World.setChan], fun k _ hne => by simp only [World.setChan]; rw [Array.getElem?_setIfInBounds_ne (by intro h; exact hne (by rw [h]))]⟩
theorem Box.set {w : World} {b c cap : Nat} {t : TypeId} {l : List Value} (h : Box w b c cap t l) (l' : List Value) (s r : Nat) : Box (w.setChan c cap l'.toArray false s r false) b c cap t l' :=
  ⟨by rw [(setChan_grown w c cap l'.toArray false s r false).block b h.lt.1 (by intro hh; exact h.ne (by injection hh))]; exact h.1, s, r, heap_setChan w c cap _ false s r false h.lt.2⟩
theorem Box.kept {w w' : World} {b c cap : Nat} {t : TypeId} {l : List Value} (h : Box w b c cap t l) {row : Option Nat} (hg : w.grownBy w' row) (hb : some b ≠ row) (hc : some c ≠ row) : Box w' b c cap t l := by
  have hl := h.lt
  obtain ⟨h1, s, r, h2⟩ := h
  exact ⟨by rw [hg.block b hl.1 hb]; exact h1, s, r, by rw [hg.block c hl.2 hc]; exact h2⟩
theorem Box.below {w w' : World} {b c cap : Nat} {t : TypeId} {l : List Value} (h : Box w b c cap t l) (hb : Below w.heap.size w w') : Box w' b c cap t l :=
  h.kept (row := none) ⟨hb.os, hb.tape, hb.output, hb.size, fun k hk _ => hb.block k hk⟩ (by simp) (by simp)

theorem put_yes {w : World} {b c cap : Nat} {l : List Value} (h : Box w b c cap 54 l) (x : Value) (hroom : l.length < cap) :
    Calls Try.prog 8 #[.pointer (some ⟨b, 0, none⟩), x] w fun e w' => e = .returned (.bool true) ∧ Box w' b c cap 54 (l ++ [x]) ∧ w.grownBy w' (some c) := by
  have hbox := h
  obtain ⟨h1, s, r, h2⟩ := h
  refine (put_room _ x w c cap s r _ hbox.cell h2 (by simpa using hroom)).mono fun e w' ⟨he, hw⟩ => ⟨he, ?_, ?_⟩
  · rw [← hw, List.push_toArray]; exact hbox.set _ _ _
  · rw [← hw]; exact setChan_grown _ _ _ _ _ _ _ _
theorem put_no {w : World} {b c cap : Nat} {l : List Value} (h : Box w b c cap 54 l) (x : Value) (hfull : cap ≤ l.length) :
    Calls Try.prog 8 #[.pointer (some ⟨b, 0, none⟩), x] w fun e w' => e = .returned (.bool false) ∧ w = w' := by
  have hbox := h
  obtain ⟨h1, s, r, h2⟩ := h
  exact put_full _ x w c cap s r _ hbox.cell h2 (by simpa using hfull)
theorem take_yes {w : World} {b c cap : Nat} {x : Value} {l : List Value} (h : Box w b c cap 54 (x :: l)) :
    Calls Try.prog 9 #[.pointer (some ⟨b, 0, none⟩)] w fun e w' => e = .returned (.tuple #[x, .bool true]) ∧ Box w' b c cap 54 l ∧ w.grownBy w' (some c) := by
  have hbox := h
  obtain ⟨h1, s, r, h2⟩ := h
  refine (take_some _ w c cap s r _ x hbox.cell h2 (by simp) (by simp)).mono fun e w' ⟨he, hw⟩ => ⟨he, ?_, ?_⟩
  · rw [← hw]
    have : (x :: l).toArray.extract 1 (x :: l).toArray.size = l.toArray := by simp
    rw [this]; exact hbox.set _ _ _
  · rw [← hw]; exact setChan_grown _ _ _ _ _ _ _ _
theorem take_no {w : World} {b c cap : Nat} (h : Box w b c cap 54 []) :
    Calls Try.prog 9 #[.pointer (some ⟨b, 0, none⟩)] w fun e w' => e = .returned (.tuple #[.string ⟨#[]⟩, .bool false]) ∧ w = w' := by
  have hbox := h
  obtain ⟨h1, s, r, h2⟩ := h
  exact take_none _ w c cap s r hbox.cell h2
theorem info9 : (Try.prog.info? 9).map (fun i => (i.zero, i.size, i.bytes)) = some (some (.string ⟨#[]⟩), 1, 16) := by kernel_rfl

def sv (l : List ByteArray) : List Value := l.map Value.string
theorem sv_one (l : List ByteArray) : ∀ u ∈ sv l, u.oneCell' = true := by
  intro u hu
  obtain ⟨s, _, rfl⟩ := List.mem_map.1 hu
  rfl
set_option maxHeartbeats 400000 in
theorem all_any {w : World} {b c cap : Nat} {l : List ByteArray} (h : Box w b c cap 54 (sv l)) (hl : l.length ≤ 1024) :
    Calls Try.prog 10 #[.pointer (some ⟨b, 0, none⟩)] w fun e w' => ∃ v, e = .returned v ∧ w'.ownsRow w.heap.size 9 1 v l.length (sv l) ∧ Box w' b c cap 54 [] ∧ w.grownBy w' (some c) := by
  have hlt := h.lt
  go_enter Try.func10, Try.ntmps10
  go_wp2
  go_loopg [3] l.length (fun k v wr => ∃ done left, done ++ left = l ∧ left.length = k ∧ wr.ownsRow w.heap.size 9 1 v done.length (sv done) ∧ Box wr b c cap 54 (sv left) ∧ w.grownBy wr (some c))
  case atStart => exact ⟨[], l, rfl, rfl, World.ownsRow_nil _ _ _ _, h, World.grownBy.refl _ _⟩
  case round =>
    obtain ⟨done, left, hl1, hl2, hown, hbox, hg⟩ := hrel
    cases left with
    | nil =>
      go_wp2_with (go_at_call 9; refine (take_no hbox).mono ?_; rintro e w' ⟨rfl, rfl⟩)
      go_ret
      refine ⟨_, rfl, ?_, hbox, hg⟩
      simp at hl1
      subst hl1
      exact hown
    | cons x left =>
      have hll : done.length + (left.length + 1) = l.length := by rw [← hl1]; simp
      have hl2' : left.length < gk := by rw [← hl2]; simp
      have hown1 : ∀ w1, wr.grownBy w1 (some c) → w1.ownsRow w.heap.size 9 1 u3 done.length (sv done) := fun w1 hg1 => hown.kept hg1 (.inr (fun hh => own_ne hown hlt.2 hh.symm))
      have H1 := hid hl1
      clear hl1 hl2
      go_wp2_with (first
        | (go_at_call 9; refine (take_yes hbox).mono ?_; rintro e w1 ⟨rfl, hbox1, hg1⟩)
        | (at_builtin; refine wpList_app rfl _ _ 22 rfl w.heap.size 9 Try.underlying22 info9 rfl (by decide) _ _ _ rfl ((hown1 _ hg1).alloc _) _ 1 1 [.string x] rfl rfl (rd_box _ _ _) (by simp [Value.oneCell']) (by omega) (by omega) (by have := hg.size; have := hg1.size; simp; omega) ?_; intro v2 w2 hown2 hg2 hat2))
      go_roundg left.length
      case rel =>
        have g2 : w1.grownBy w2 u3.ownBlock := grown_after ((World.grownBy.refl _ _)) (grown_after (World.grownBy_alloc w1 _ u3.ownBlock) hg2 (fun _ _ => .inr rfl)) (fun _ _ => .inr rfl)
        refine ⟨done ++ [x], left, by rw [← H1.out]; simp, rfl, by simpa [sv] using hown2, hbox1.kept g2 (own_ne hown hlt.1) (own_ne hown hlt.2), ?_⟩
        refine grown_after (grown_after hg hg1 (fun _ _ => .inr rfl)) g2 fun j hj => .inl ?_
        exact (own_lt hown hj).1
      case measure => exact hl2'
end Go.Proofs.Ytfeclopdagbngaa
