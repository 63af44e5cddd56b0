import Derived.Test.YtgkdnhbhmebmeaaDoorLogC
namespace Go.Proofs.YtgkdnhbhmebmeaaDoor
open Go.RowKit Go.Cov
theorem var2_set {w : World} {b : Nat} {x y : Value} (h : Var2 w b x y) (x' y' : Value) : Var2 ((w.setCell ⟨b, 0, none⟩ x').setCell ⟨b, 1, none⟩ y') b x' y' := by
  obtain ⟨h0, h1, f0, f1, hz⟩ := h
  obtain ⟨z0, z1⟩ := set2_cells h0 h1 x' y'
  exact ⟨z0, z1, by rw [World.frozen?_setCell, World.frozen?_setCell]; exact f0, by rw [World.frozen?_setCell, World.frozen?_setCell]; exact f1, by simpa using hz⟩
theorem sl_keepU {w w' : World} {p : Value} {l : List UInt8} (h : Sl w p l) (hk : ∀ q (u : UInt8), w.cell? q = some (byt u) → w'.cell? q = some (byt u)) : Sl w' p l := by
  obtain ⟨A, c, rfl, h1, h2, h3⟩ := h
  refine ⟨A, c, rfl, h1, h2, fun j u hj => ?_⟩
  obtain ⟨ad, hA, hc⟩ := h3 j u hj
  rw [List.getElem?_map] at hj
  obtain ⟨b, _, rfl⟩ := Option.map_eq_some_iff.1 hj
  exact ⟨ad, hA, hk _ _ hc⟩
/-- a list lies on when another variable is written -/
theorem Lg.set {w : World} {b : Nat} {x : Int} {F : Option Addr} {n k : Nat} {A : Option Addr} {c : Nat} {xs : List En} {L : EL} (h : Lg w A c xs L) (hv : Var2 w b (.int .i64 x) (.slice F n k)) (hne : ∀ ad, A = some ad → ad.block ≠ b) (x' y' : Value) : Lg ((w.setCell ⟨b, 0, none⟩ x').setCell ⟨b, 1, none⟩ y') A c xs L := by
  refine ⟨⟨rd_set (rd_set h.1.1 hne) hne, fun a ha p hp => sl_keepU (h.1.2 a ha p hp) fun q u hq => ?_⟩, h.2⟩
  have n0 : (⟨b, 0, none⟩ : Addr) ≠ q := fun e => by rw [← e, hv.1] at hq; cases hq
  have n1 : (⟨b, 1, none⟩ : Addr) ≠ q := fun e => by rw [← e, hv.2.1] at hq; cases hq
  rw [World.cell?_setCell_other _ _ _ _ n1, World.cell?_setCell_other _ _ _ _ n0]
  exact hq
theorem lg_own {w w4 : World} {base b n q : Nat} {t : TypeId} {C : Option Addr} {us : List En} {y0 y1 : Value} (own : w4.ownsRow base t 3 (.slice C n q) n (us.flatMap enEl.cells)) (hn : us.length = n) (hold : ∀ a ∈ us, ∀ p ∈ enEl.cons a, Sl w p.1 p.2) (hb : b < base)
    (bf : Below w.heap.size w ((w4.setCell ⟨b, 0, none⟩ y0).setCell ⟨b, 1, none⟩ y1)) : Lg ((w4.setCell ⟨b, 0, none⟩ y0).setCell ⟨b, 1, none⟩ y1) C q us (us.map En.data) := by
  obtain ⟨A', c', he, hc, _⟩ := own_shape own
  injection he with e1 e2 e3
  subst e1 e3
  have hne : ∀ ad, C = some ad → ad.block ≠ b := fun ad hA => by
    have := (own_lt own (k := ad.block) (by rw [hA]; rfl)).1
    omega
  exact ⟨⟨rd_set (rd_set (own_rd own) hne) hne, fun a ha p hp => (hold a ha p hp).keep (fun _ _ hq => cell_on bf hq)⟩, by omega, rfl⟩
end Go.Proofs.YtgkdnhbhmebmeaaDoor
