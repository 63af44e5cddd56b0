import Derived.Test.YtlekoeddcjjjdaaJourC
import Derived.Test.YtlekoeddcjjjdaaJourT
/-! the ref's journal: a cell that holds a slice of stores -/
namespace Go.Proofs.Ytlekoeddcjjjdaa
open Go.RowKit Go.Cov Go.Lib
variable {Bk : Nat → Prop}
/-- a slice of pairs as an element -/
structure SlP where
  A : Option Addr
  c : Nat
  xs : List Pr
def SlP.val (s : SlP) : Value := .slice s.A s.xs.length s.c
/-- THE REF'S JOURNAL at db: the stores that were, the last one is. -/
def RJ (Bk : Nat → Prop) (w : World) (base db : Nat) (Ls : List PL) : Prop := ∃ (dv : Value) (ss : List SlP),
  (w.cell? ⟨db, 0, none⟩ = some dv ∧ w.frozen? ⟨db, 0, none⟩ = false) ∧ (base ≤ db ∧ db < w.heap.size ∧ dv.ownBlock ≠ some db ∧ Bk db ∧ ∀ k, dv.ownBlock = some k → Bk k) ∧
  w.ownsRow base 22 1 dv Ls.length (ss.map SlP.val) ∧ ∀ (i : Nat) (L : PL), Ls[i]? = some L → ∃ s : SlP, ss[i]? = some s ∧ GSt Bk w db dv s.A s.c s.xs L
theorem RJ.below {w w' : World} {base db : Nat} {Ls : List PL} (h : RJ Bk w base db Ls) (hb : Below w.heap.size w w') : RJ Bk w' base db Ls := by
  obtain ⟨dv, ss, ⟨h1, h2⟩, ⟨h3, h4, h5⟩, h6, h7⟩ := h
  refine ⟨dv, ss, ⟨cell_on hb h1, froz_on hb h4 h2⟩, ⟨h3, Nat.lt_of_lt_of_le h4 hb.size, h5⟩, own_below h6 hb, fun i L hi => ?_⟩
  obtain ⟨s, hs, hg⟩ := h7 i L hi
  exact ⟨s, hs, hg.below hb⟩
theorem RJ.turn {w w' : World} {base db : Nat} {Ls : List PL} (h : RJ Bk w base db Ls) (hk : ∀ k, Bk k → k < w.heap.size → w'.heap[k]? = w.heap[k]?) (hs : w.heap.size ≤ w'.heap.size) : RJ Bk w' base db Ls := by
  obtain ⟨dv, ss, ⟨h1, h2⟩, ⟨h3, h4, h5, h5a, h5b⟩, h6, h7⟩ := h
  refine ⟨dv, ss, ⟨(World.cell?_of_block (a := ⟨db, 0, none⟩) (hk db h5a h4)).trans h1, (World.frozen?_of_block (a := ⟨db, 0, none⟩) (hk db h5a h4)).trans h2⟩, ⟨h3, Nat.lt_of_lt_of_le h4 hs, h5, h5a, h5b⟩, own_heap h6 (fun k hkk => hk k (h5b k hkk) (own_lt h6 hkk).2), fun i L hi => ?_⟩
  obtain ⟨s, hss, hg⟩ := h7 i L hi
  exact ⟨s, hss, hg.keep fun k hgd => ⟨hk k hgd.2.2.2 hgd.1, Nat.lt_of_lt_of_le hgd.1 hs, hgd.2⟩⟩
theorem RJ.weak {Bl : Nat → Prop} {w : World} {base db : Nat} {Ls : List PL} (h : RJ Bk w base db Ls) (hw : ∀ k, k < w.heap.size → Bk k → Bl k) : RJ Bl w base db Ls := by
  obtain ⟨dv, ss, h1, ⟨h3, h4, h5, h5a, h5b⟩, h6, h7⟩ := h
  refine ⟨dv, ss, h1, ⟨h3, h4, h5, hw db h4 h5a, fun k hk => hw k (own_lt h6 hk).2 (h5b k hk)⟩, h6, fun i L hi => ?_⟩
  obtain ⟨s, hss, hg⟩ := h7 i L hi
  refine ⟨s, hss, hg.1, fun ad ha => ⟨(hg.2.1 ad ha).1, (hg.2.1 ad ha).2.1, (hg.2.1 ad ha).2.2.1, hw _ (hg.2.1 ad ha).1 (hg.2.1 ad ha).2.2.2⟩, fun x hx => ⟨fun hl ad ha => ?_, fun hl ad ha => ?_⟩⟩
  · have := (hg.2.2 x hx).1 hl ad ha; exact ⟨this.1, this.2.1, this.2.2.1, hw _ this.1 this.2.2.2⟩
  · have := (hg.2.2 x hx).2 hl ad ha; exact ⟨this.1, this.2.1, this.2.2.1, hw _ this.1 this.2.2.2⟩
theorem rjmark_any {w : World} {base db : Nat} {Ls : List PL} (h : RJ Bk w base db Ls) (h1 : 1 ≤ Ls.length) (hn : Ls.length ≤ 100001) :
    Calls Try.prog 21 #[.pointer (some ⟨db, 0, none⟩)] w fun e w' => e = .returned (.int .i64 (Ls.length - 1 : Nat)) ∧ w' = w := by
  obtain ⟨dv, ss, ⟨c0, f0⟩, _, h6, _⟩ := h
  obtain ⟨U, q, rfl, _⟩ := own_shape h6
  obtain ⟨n, hn1⟩ : ∃ n, n = Ls.length - 1 := ⟨_, rfl⟩
  have e1 : IntKind.i64.wrap ((Ls.length : Int) - 1) = n := by rw [wrap_of _ (by omega) (by omega)]; omega
  rw [← hn1]
  clear hn1 h6
  go_enter Try.func21, Try.ntmps21
  go_wp2_with fail
  go_ret
  exact ⟨rfl, rfl⟩
end Go.Proofs.Ytlekoeddcjjjdaa
