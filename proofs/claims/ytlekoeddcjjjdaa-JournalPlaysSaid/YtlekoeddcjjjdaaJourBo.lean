import Derived.Test.YtlekoeddcjjjdaaJourNx
import Derived.Test.YtlekoeddcjjjdaaJourG
/-! both journals at once: neither writes to what the other one has -/
namespace Go.Proofs.Ytlekoeddcjjjdaa
open Go.RowKit Go.Cov Go.Lib
def Ja (w : World) (jb k : Nat) : Prop := k ≠ jb ∧ ∀ uv, w.cell? ⟨jb, 1, none⟩ = some uv → uv.ownBlock ≠ some k
def Da (w : World) (db k : Nat) : Prop := k ≠ db ∧ ∀ dv, w.cell? ⟨db, 0, none⟩ = some dv → dv.ownBlock ≠ some k
def Both (w : World) (bj bd jb db : Nat) (hist : List PL) (cur : PL) (Ls : List PL) : Prop := JnB (Da w db) w bj jb hist cur ∧ RJ (Ja w jb) w bd db Ls
variable {w w' : World} {bj bd jb db : Nat} {hist hist' : List PL} {cur cur' : PL} {Ls Ls' : List PL}
theorem Ja.eq {k : Nat} (h : Ja w jb k) (he : w'.cell? ⟨jb, 1, none⟩ = w.cell? ⟨jb, 1, none⟩) : Ja w' jb k := ⟨h.1, fun uv hu => h.2 uv (he ▸ hu)⟩
theorem Da.eq {k : Nat} (h : Da w db k) (he : w'.cell? ⟨db, 0, none⟩ = w.cell? ⟨db, 0, none⟩) : Da w' db k := ⟨h.1, fun uv hu => h.2 uv (he ▸ hu)⟩
theorem JnB.cell {Bk : Nat → Prop} (h : JnB Bk w bj jb hist cur) : ∃ uv, w.cell? ⟨jb, 1, none⟩ = some uv ∧ jb < w.heap.size ∧ Bk jb ∧ ∀ k, uv.ownBlock = some k → k < w.heap.size := by
  obtain ⟨A, c, xs, uv, fs, ⟨h1, h2, h3, h4⟩, ⟨h5, h6, h7, hq⟩, h8, h9, h10⟩ := h
  exact ⟨uv, h2, h6, hq.1, fun k hk => (own_lt h9 hk).2⟩
theorem RJ.cell {Bk : Nat → Prop} (h : RJ Bk w bd db Ls) : ∃ dv, w.cell? ⟨db, 0, none⟩ = some dv ∧ db < w.heap.size ∧ bd ≤ db ∧ Bk db ∧ ∀ k, dv.ownBlock = some k → bd ≤ k ∧ k < w.heap.size := by
  obtain ⟨dv, ss, ⟨h1, h2⟩, ⟨h3, h4, h5, h5a, h5b⟩, h6, h7⟩ := h
  exact ⟨dv, h1, h4, h3, h5a, fun k hk => own_lt h6 hk⟩
theorem Both.newD (h : Both w bj bd jb db hist cur Ls) : ∀ k, w.heap.size ≤ k → Da w db k := fun k hk => by
  obtain ⟨dv, h1, h2, _, _, h4⟩ := h.2.cell
  refine ⟨by omega, fun dv' hd e => ?_⟩
  obtain rfl : dv = dv' := Option.some.inj (h1.symm.trans hd)
  have := h4 k e; omega
theorem Both.newJ (h : Both w bj bd jb db hist cur Ls) : ∀ k, w.heap.size ≤ k → Ja w jb k := fun k hk => by
  obtain ⟨dv, h1, h2, _, h4⟩ := h.1.cell
  refine ⟨by omega, fun dv' hd e => ?_⟩
  obtain rfl : dv = dv' := Option.some.inj (h1.symm.trans hd)
  have := h4 k e; omega
theorem Both.below (h : Both w bj bd jb db hist cur Ls) (hb : Below w.heap.size w w') : Both w' bj bd jb db hist cur Ls := by
  obtain ⟨dv, d1, d2, _⟩ := h.2.cell
  obtain ⟨uv, u1, u2, _⟩ := h.1.cell
  exact ⟨(h.1.below hb).weak fun k _ hk => hk.eq ((cell_on hb d1).trans d1.symm), (h.2.below hb).weak fun k _ hk => hk.eq ((cell_on hb u1).trans u1.symm)⟩
/-- .. behind one of the program's journal's operations -/
theorem Both.byJ (h : Both w bj bd jb db hist cur Ls) (hj : JnB (Da w db) w' bj jb hist' cur') (hk : Keep w w' jb) (hs : w.heap.size ≤ w'.heap.size) : Both w' bj bd jb db hist' cur' Ls := by
  obtain ⟨dv, d1, d2, _, d3, _⟩ := h.2.cell
  have hc : w'.cell? ⟨db, 0, none⟩ = w.cell? ⟨db, 0, none⟩ := World.cell?_of_block (a := ⟨db, 0, none⟩) (hk db ⟨d2, d3⟩).1
  refine ⟨hj.weak fun k _ hd => hd.eq hc, ?_⟩
  have h1 := h.2.weak (Bl := fun k => k < w.heap.size ∧ Ja w jb k) fun k hl hj => ⟨hl, hj⟩
  exact (h1.turn (fun k hk2 _ => (hk k ⟨hk2.1, hk2.2⟩).1) hs).weak fun k _ hk2 => (hk k ⟨hk2.1, hk2.2⟩).2.2
/-- .. behind one of the document's -/
theorem Both.byD (h : Both w bj bd jb db hist cur Ls) (hd : RJ (Ja w jb) w' bd db Ls') (hm : Moves w w' db) (hs : w.heap.size ≤ w'.heap.size) : Both w' bj bd jb db hist cur Ls' := by
  obtain ⟨dv, d1, d2, _⟩ := h.2.cell
  obtain ⟨uv, u1, u2, u3, _⟩ := h.1.cell
  obtain ⟨dv', e1, e2, e3⟩ := hm dv d1
  have hc : w'.cell? ⟨jb, 1, none⟩ = w.cell? ⟨jb, 1, none⟩ := World.cell?_of_block (a := ⟨jb, 1, none⟩) (e3 jb u2 u3.1 (u3.2 dv d1))
  refine ⟨?_, hd.weak fun k _ hk => hk.eq hc⟩
  have h1 := h.1.weak (Bl := fun k => k < w.heap.size ∧ Da w db k) fun k hl hj => ⟨hl, hj⟩
  refine (h1.turn (fun k hk _ => e3 k hk.1 hk.2.1 (hk.2.2 dv d1)) hs).weak fun k _ hk => ⟨hk.2.1, fun dv2 h2 e => ?_⟩
  obtain rfl : dv' = dv2 := Option.some.inj (e1.symm.trans h2)
  rcases e2 with e2 | e2
  · exact hk.2.2 dv d1 (e2 ▸ e)
  · have := e2 k e; have := hk.1; omega
/-- .. as the two are made -/
theorem both_new {w0 w2 : World} {L : PL} (hj : JnB (fun _ => True) w0 bj jb [] L) (hb : Below w0.heap.size w0 w2) (hd : RJ (Ja w0 jb) w2 w0.heap.size db [L]) : Both w2 bj w0.heap.size jb db [] L [L] := by
  obtain ⟨dv, d1, d2, d3, _, d4⟩ := hd.cell
  obtain ⟨uv, u1, u2, _⟩ := hj.cell
  refine ⟨((hj.weak (Bl := fun k => k < w0.heap.size) fun k hk _ => hk).below hb).weak fun k _ hk => ⟨by omega, fun dv2 h2 e => ?_⟩, hd.weak fun k _ hk => hk.eq ((cell_on hb u1).trans u1.symm)⟩
  obtain rfl : dv = dv2 := Option.some.inj (d1.symm.trans h2)
  have := d4 k e; omega
end Go.Proofs.Ytlekoeddcjjjdaa
