import Derived.Test.YtlekoeddcjjjdaaJourG
namespace Go.Proofs.Ytlekoeddcjjjdaa
open Go.RowKit Go.Cov Go.Lib
theorem newrow1_K {K : Act → World → Prop} {a : Act} {W : World} {t : TypeId} (B : Nat) (hB : B ≤ W.heap.size)
    (h : ∀ wx, Below W.heap.size W wx → wx.ownsRow B t 1 (.slice (some ⟨W.heap.size, 0, none⟩) 0 0) 0 [] → W.heap.size < wx.heap.size → K a wx) : K a (W.alloc (.cells #[] t)) :=
  h _ (below_alloc _ _) (own_mono (World.ownsRow_made W #[] 0 (Nat.le_refl _) (by simp [maxLen]) rfl) hB) (by simp)
theorem newrow1_Kd {K : Act → World → Prop} {a : Act} {W : World} {t : TypeId} (B : Nat) (hB : B ≤ W.heap.size)
    (h : ∀ wx, Below W.drew.heap.size W.drew wx → wx.ownsRow B t 1 (.slice (some ⟨W.heap.size, 0, none⟩) 0 0) 0 [] → W.heap.size < wx.heap.size → K a wx) : K a (W.alloc (.cells #[] t)).drew :=
  h (W.drew.alloc (.cells #[] t)) (below_alloc W.drew _) (own_mono (World.ownsRow_made W.drew #[] 0 (Nat.le_refl _) (by simp [maxLen]) rfl) hB) (by simp)
theorem own_apart {w w' : World} {base : Nat} {e : TypeId} {size n : Nat} {v : Value} {xs : List Value} {row : Option Nat} (h : w.ownsRow base e size v n xs) (hg : w.grownBy w' row) (hne : ∀ k, v.ownBlock = some k → some k ≠ row) : w'.ownsRow base e size v n xs :=
  own_heap h fun k hk => hg.block k (own_lt h hk).2 (hne k hk)
theorem blk_ne {v : Value} {N M K kk : Nat} (h : v.ownBlock = (Value.slice (some ⟨N, 0, none⟩) 0 0).ownBlock ∨ v.ownBlock = some K) (hk : v.ownBlock = some kk) (e : some kk = (Value.slice (some ⟨M, 0, none⟩) 0 0).ownBlock) : (kk = N ∨ kk = K) ∧ kk = M := by
  refine ⟨?_, Option.some.inj e⟩
  rcases h with h | h
  · exact .inl (Option.some.inj (hk.symm.trans h))
  · exact .inr (Option.some.inj (hk.symm.trans h))
theorem blk_two {N M kk : Nat} (hk : (Value.slice (some ⟨N, 0, none⟩) 0 0).ownBlock = some kk) (e : some kk = (Value.slice (some ⟨M, 0, none⟩) 0 0).ownBlock) : kk = N ∧ kk = M := ⟨(Option.some.inj hk).symm, Option.some.inj e⟩
/-- .. and all that may be written stays so -/
def WW (Bk : Nat → Prop) (w W : World) (S : List (Option Addr × Nat)) : Prop := Wr Bk w W ∧ ∀ s ∈ S, Wrt W s.1 s.2
theorem WW.set {Bk : Nat → Prop} {w W : World} {S : List (Option Addr × Nat)} (h : WW Bk w W S) {p : Addr} (hp : ¬ Bk p.block) (z : Int) : WW Bk w (W.setCell p (.int .u8 z)) S := ⟨h.1.set hp _, fun s hs => (h.2 s hs).set p z⟩
theorem WW.cell {Bk : Nat → Prop} {w W : World} {S : List (Option Addr × Nat)} (h : WW Bk w W S) {p : Addr} {v : Value} (hp : Bk p.block) (hc : w.cell? p = some v) : W.cell? p = some v := (World.cell?_of_block (h.1.block _ hp)).trans hc
end Go.Proofs.Ytlekoeddcjjjdaa
