import Derived.Test.YtlekoeddcjjjdaaJourV
import Derived.Test.YtlekoeddcjjjdaaJourU
/-! the ref's journal: one store more -/
namespace Go.Proofs.Ytlekoeddcjjjdaa
open Go.RowKit Go.Cov Go.Lib
variable {Bk : Nat → Prop}
/-- what the ref's journal may have turned -/
def Moves (w w' : World) (db : Nat) : Prop := ∀ dv, w.cell? ⟨db, 0, none⟩ = some dv → ∃ dv', w'.cell? ⟨db, 0, none⟩ = some dv' ∧ (dv'.ownBlock = dv.ownBlock ∨ ∀ k, dv'.ownBlock = some k → w.heap.size ≤ k) ∧ ∀ k, k < w.heap.size → k ≠ db → dv.ownBlock ≠ some k → w'.heap[k]? = w.heap[k]?
theorem rj_app {w2 w7 : World} {base db q : Nat} {Ls : List PL} {M : PL} {dv v7 : Value} {ss : List SlP} {C : Option Addr} {ys : List Pr}
    (hB : ∀ k, w2.heap.size ≤ k → Bk k) (c0 : w2.cell? ⟨db, 0, none⟩ = some dv) (f0 : w2.frozen? ⟨db, 0, none⟩ = false) (h5 : base ≤ db ∧ db < w2.heap.size ∧ dv.ownBlock ≠ some db ∧ Bk db ∧ ∀ k, dv.ownBlock = some k → Bk k)
    (h7 : ∀ (i : Nat) (L : PL), Ls[i]? = some L → ∃ s : SlP, ss[i]? = some s ∧ GSt Bk w2 db dv s.A s.c s.xs L) (hl : ss.length = Ls.length) (hy : GSt Bk w2 db dv C q ys M)
    (own7 : w7.ownsRow base 22 1 v7 (Ls.length + 1) (ss.map SlP.val ++ [.slice C ys.length q])) (hg : w2.grownBy w7 dv.ownBlock) (hat : v7.ownBlock = dv.ownBlock ∨ v7.ownBlock = some w2.heap.size) :
    RJ Bk (w7.setCell ⟨db, 0, none⟩ v7) base db (Ls ++ [M]) ∧ Moves w2 (w7.setCell ⟨db, 0, none⟩ v7) db := by
  obtain ⟨h3, h4, h5, h5a, h5b⟩ := h5
  have hs := hg.size
  have hne : v7.ownBlock ≠ some db := by
    rcases hat with e | e
    · rw [e]; exact h5
    · rw [e]; intro he; injection he with he; omega
  have hsz : (w7.setCell ⟨db, 0, none⟩ v7).heap.size = w7.heap.size := by simp
  have hkeep : ∀ k, Gd Bk w2 db dv k → (w7.setCell ⟨db, 0, none⟩ v7).heap[k]? = w2.heap[k]? ∧ Gd Bk (w7.setCell ⟨db, 0, none⟩ v7) db v7 k := fun k hk => by
    refine ⟨by rw [heap_set hk.2.1]; exact hg.block k hk.1 (fun e => hk.2.2.1 e.symm), by rw [hsz]; exact Nat.lt_of_lt_of_le hk.1 hs, hk.2.1, ?_, hk.2.2.2⟩
    rcases hat with e | e
    · rw [e]; exact hk.2.2.1
    · rw [e]; intro he; injection he with he; have := hk.1; omega
  have hcell : (w7.setCell ⟨db, 0, none⟩ v7).cell? ⟨db, 0, none⟩ = some v7 := World.cell?_setCell_same' _ _ _ (by rw [World.cell?_of_block (a := ⟨db, 0, none⟩) (hg.block db h4 (fun e => h5 e.symm)), c0]; rfl)
  refine ⟨⟨v7, ss ++ [⟨C, q, ys⟩], ⟨hcell, ?_⟩, ⟨h3, by rw [hsz]; omega, hne, h5a, fun k hk => ?_⟩, ?_, fun i L hi => ?_⟩, fun dv0 h0 => ?_⟩
  · rw [World.frozen?_setCell]
    exact (World.frozen?_of_block (a := ⟨db, 0, none⟩) (hg.block db h4 (fun e => h5 e.symm))).trans f0
  · rcases hat with e | e
    · exact h5b k (e ▸ hk)
    · rw [e] at hk; injection hk with hk; exact hB k (by omega)
  · rw [List.length_append, List.length_singleton, List.map_append]
    exact own_heap own7 (fun k hk => heap_set (fun e => hne (by rw [hk, e])))
  · by_cases hi2 : i < Ls.length
    · rw [List.getElem?_append_left hi2] at hi
      obtain ⟨s, hss, hgs⟩ := h7 i L hi
      exact ⟨s, by rw [List.getElem?_append_left (by omega)]; exact hss, hgs.keep hkeep⟩
    · have hi3 := (List.getElem?_eq_some_iff.1 hi).1
      rw [List.length_append, List.length_singleton] at hi3
      obtain rfl : i = Ls.length := by omega
      rw [List.getElem?_append_right (Nat.le_refl _), Nat.sub_self] at hi
      obtain rfl : M = L := Option.some.inj hi
      exact ⟨⟨C, q, ys⟩, by rw [← hl, List.getElem?_append_right (Nat.le_refl _), Nat.sub_self]; rfl, hy.keep hkeep⟩
  · obtain rfl : dv = dv0 := Option.some.inj (c0.symm.trans h0)
    refine ⟨v7, hcell, hat.imp id (fun e k hk => by rw [e] at hk; injection hk with hk; omega), fun k hk h1 h2 => by rw [heap_set h1]; exact hg.block k hk (fun e => h2 e.symm)⟩
/-- what the ref's Put or Del has made is good -/
theorem newp_good {w w' : World} {db c q : Nat} {dv : Value} {A C : Option Addr} {xs ys : List Pr} {L M : PL} (h : GSt Bk w db dv A c xs L) (hB : ∀ k, w.heap.size ≤ k → Bk k) (hd : db < w.heap.size) (hv : ∀ k, dv.ownBlock = some k → k < w.heap.size) (hb : Below w.heap.size w w') (hs : St w' C q ys M) (hn : NewP w w' xs C ys) : GSt Bk w' db dv C q ys M := by
  have hnew : ∀ k, w.heap.size ≤ k → k < w'.heap.size → Gd Bk w' db dv k := fun k h1 h2 => ⟨h2, by omega, fun e => by have := hv k e; omega, hB k h1⟩
  refine ⟨hs, fun ad e => hnew _ (hn.1 ad e).1 (hn.1 ad e).2, fun y hy => ?_⟩
  rcases hn.2 y hy with hy | hy
  · exact ⟨(h.2.2 y hy).1.below hb, (h.2.2 y hy).2.below hb⟩
  · exact ⟨ge_of fun ad e => hnew _ (hy.1 ad e).1 (hy.1 ad e).2, ge_of fun ad e => hnew _ (hy.2 ad e).1 (hy.2 ad e).2⟩
end Go.Proofs.Ytlekoeddcjjjdaa
