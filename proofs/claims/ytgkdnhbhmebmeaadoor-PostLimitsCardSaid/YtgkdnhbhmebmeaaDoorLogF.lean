import Derived.Test.YtgkdnhbhmebmeaaDoorLogE
namespace Go.Proofs.YtgkdnhbhmebmeaaDoor
open Go.RowKit Go.Cov Go.Shelf
attribute [local go_sem] Oper.semAt_some
/-- the last place, if any -/
def lastIx (p : ED → Bool) (L : EL) : Option Nat := (L.reverse.findIdx? p).map fun k => L.length - 1 - k
def hits (cl rq : Int) (x : ED) : Bool := decide (x.1 = cl) && decide (x.2.1 = rq)
def findL (s : Int) (L : EL) (cl rq : Int) : Int := if rightL s L = true then (match lastIx (hits cl rq) L with | some i => s + i + 1 | none => 0) else 0
theorem last_none {xs : List En} {L : EL} (h : xs.map En.data = L) {p : ED → Bool} (hn : ∀ q ∈ dn xs xs.length, p q.2.data = false) : lastIx p L = none := by
  unfold lastIx
  rw [Option.map_eq_none_iff, List.findIdx?_eq_none_iff]
  intro x hx
  rw [← h, List.mem_reverse, List.mem_map] at hx
  obtain ⟨a, ha, rfl⟩ := hx
  obtain ⟨i, hi, rfl⟩ := List.getElem_of_mem ha
  have := hn (dnAt xs (xs.length - 1 - i)) (by rw [dn, List.mem_map]; exact ⟨_, by simp; omega, rfl⟩)
  rwa [dnAt_at (m := i) (by omega) hi] at this
theorem last_some {xs : List En} {L : EL} (h : xs.map En.data = L) {p : ED → Bool} {k : Nat} (hk : k < xs.length) (hn : ∀ q ∈ dn xs k, p q.2.data = false) (hp : p (dnAt xs k).2.data = true) : lastIx p L = some (xs.length - 1 - k) := by
  unfold lastIx
  have e : L.reverse.findIdx? p = some k := by
    rw [List.findIdx?_eq_some_iff_getElem]
    have hl : L.reverse.length = xs.length := by rw [List.length_reverse, ← h, List.length_map]
    have hat : ∀ j, (hj : j < xs.length) → L.reverse[j] = (dnAt xs j).2.data := fun j hj => by
      rw [List.getElem_reverse, dnAt_at (m := xs.length - 1 - j) rfl (by omega)]
      subst h
      simp
    refine ⟨by omega, by rw [hat k hk]; exact hp, fun j hj => ?_⟩
    rw [hat j (by omega), hn _ (by rw [dn, List.mem_map]; exact ⟨j, by simpa using hj, rfl⟩)]
    simp
  rw [e, ← h, List.length_map]
  rfl
theorem wrap64_of (n : Int) (h1 : -9223372036854775808 ≤ n) (h2 : n ≤ 9223372036854775807) : wrap64 n = n := by unfold wrap64; omega
end Go.Proofs.YtgkdnhbhmebmeaaDoor
