import Derived.Test.YtgkdnhbhmebmeaaDoorOpA
import Derived.Test.YtgkdnhbhmebmeaaDoorPlain1
/-! op: what is right -/
namespace Go.Proofs.YtgkdnhbhmebmeaaDoor
open Go.RowKit Go.Cov
theorem notall (xs : List En) (k : Nat) (hk : k < xs.length) (hb : argOk xs[k].data = false) : (!((xs.map En.data).all argOk)) = true := by
  have : (xs.map En.data).all argOk = false := by
    rw [List.all_eq_false]
    exact ⟨xs[k].data, List.mem_map_of_mem (List.getElem_mem hk), by rw [hb]; simp⟩
  rw [this]; rfl
theorem allok (xs : List En) (hb : ∀ k, (hk : k < xs.length) → argOk xs[k].data = true) : (xs.map En.data).all argOk = true := by
  rw [List.all_eq_true]
  intro x hx
  obtain ⟨a, ha, rfl⟩ := List.mem_map.1 hx
  obtain ⟨k, hk, rfl⟩ := List.getElem_of_mem ha
  exact hb k hk
end Go.Proofs.YtgkdnhbhmebmeaaDoor
