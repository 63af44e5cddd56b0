/-
  Lemmas of this claim's own: a reader's cells (bytes, a place, an error). Over any program.
-/
import Derived.Test.YtoceipdkmafagaaCli
import Derived.Test.YtoceipdkmafagaaCod
namespace Go.Cov
open Go.RowKit
/-- a reader: its bytes, its place, its error; the bytes lie elsewhere -/
structure Rr (w : World) (b : Nat) (A : Option Addr) (c : Nat) (l : List UInt8) (s : Int × Int) : Prop where
  row : Row w b [.slice A l.length c, .int .i64 s.1, .int .i64 s.2]
  rd : Rd w A (l.map byt)
  off : l ≠ [] → ∀ ad, A = some ad → ad.block ≠ b
  cap : l.length ≤ c
  len : l.length ≤ 140737488351236
section
variable {w w1 : World} {b c : Nat} {A : Option Addr} {l : List UInt8} {s : Int × Int}
theorem Rr.below (h : Rr w b A c l s) (hb : Below w.heap.size w w1) : Rr w1 b A c l s := ⟨h.row.below hb, h.rd.below hb, h.off, h.cap, h.len⟩
theorem rd_off {xs : List UInt8} {w w1 : World} {b : Nat} {A : Option Addr} (hG : Gro b b w w1) (h : Rd w A (xs.map byt)) (ho : xs ≠ [] → ∀ ad, A = some ad → ad.block ≠ b) : Rd w1 A (xs.map byt) := by
  by_cases hx : xs = []
  · subst hx; exact Rd.nil _ _
  · exact hG.rd h (fun ad ha => ⟨ho hx ad ha, ho hx ad ha⟩)
theorem Rr.set1 (h : Rr w b A c l s) (x : Int) : Rr (w.setCell ⟨b, 1, none⟩ (.int .i64 x)) b A c l (x, s.2) :=
  ⟨h.row.set 1 (by simp) _, rd_off (Gro.set b b 1 w _) h.rd h.off, h.off, h.cap, h.len⟩
theorem Rr.set2 (h : Rr w b A c l s) (x : Int) : Rr (w.setCell ⟨b, 2, none⟩ (.int .i64 x)) b A c l (s.1, x) :=
  ⟨h.row.set 2 (by simp) _, rd_off (Gro.set b b 2 w _) h.rd h.off, h.off, h.cap, h.len⟩
theorem Rr.new (h : Rd w A (l.map byt)) (hA : l ≠ [] → ∀ ad, A = some ad → ad.block < w.heap.size) (hc : l.length ≤ c) (hl : l.length ≤ 140737488351236) (t : TypeId) : Rr (w.alloc (.cells #[.slice A l.length c, .int .i64 0, .int .i64 0] t)) w.heap.size A c l (0, 0) :=
  ⟨Row.new w [.slice A l.length c, .int .i64 0, .int .i64 0] t, h.below (below_alloc w _), fun hn ad ha => Nat.ne_of_lt (hA hn ad ha), hc, hl⟩
theorem Gro.own {e : TypeId} {base n size : Nat} {v : Value} {xs : List Value} (hG : Gro b b w w1) (h : w.ownsRow base e size v n xs) (hb : b < base) : w1.ownsRow base e size v n xs := by
  refine ⟨h.1, ?_⟩
  have h0 := fun k (hk : v.ownBlock = some k) => own_lt h hk
  rcases h.2 with h2 | ⟨g, cap, cur, hv, hg, hh, r⟩
  · exact .inl h2
  · have h1 := h0 g (by rw [hv]; rfl)
    exact .inr ⟨g, cap, cur, hv, hg, (hG.block g h1.2 (by omega) (by omega)).trans hh, r⟩
theorem Gro.sl {v : Value} {m : List UInt8} (hG : Gro b b w w1) (h : Sl w v m) (hb : ∀ k, v.ownBlock = some k → k ≠ b) : Sl w1 v m := by
  obtain ⟨A, c, rfl, h1, h2, h3⟩ := h
  exact ⟨A, c, rfl, h1, h2, hG.rd h3 (fun ad ha => ⟨hb _ (by rw [ha]; rfl), hb _ (by rw [ha]; rfl)⟩)⟩
end
end Go.Cov
