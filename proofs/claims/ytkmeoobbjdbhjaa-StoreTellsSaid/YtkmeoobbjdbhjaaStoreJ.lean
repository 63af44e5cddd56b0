import Derived.Test.YtkmeoobbjdbhjaaStoreI
import Derived.Test.YtkmeoobbjdbhjaaPlain1
namespace Go.Proofs.Ytkmeoobbjdbhjaa
open Go.Cov Go.Lib
abbrev PL := List (List UInt8 × List UInt8)
/-- the keys go up -/
def Up (l : PL) : Prop := l.Pairwise fun a b => compareBytes a.1 b.1 < 0
def Fit (l : PL) : Prop := ∀ x ∈ l, x.1.length ≤ 64 ∧ x.2.length ≤ 256
theorem up_adj : ∀ (l : PL), (∀ i, (h : i + 1 < l.length) → compareBytes l[i].1 l[i + 1].1 < 0) → Up l
  | [], _ => List.Pairwise.nil
  | [a], _ => List.pairwise_singleton _ a
  | a :: b :: l, h => by
    have hr := up_adj (b :: l) (fun i hi => h (i + 1) (by simpa using hi))
    have hab : compareBytes a.1 b.1 < 0 := h 0 (by simp)
    refine List.pairwise_cons.2 ⟨fun x hx => ?_, hr⟩
    rcases List.mem_cons.1 hx with rfl | hx
    · exact hab
    · exact cmp_trans _ _ _ hab ((List.pairwise_cons.1 hr).1 x hx)
theorem right_iff (l : PL) : rightP l = true ↔ Up l ∧ Fit l ∧ sizeP l ≤ 2048 := by
  constructor
  · intro h
    unfold rightP at h
    rw [Bool.and_eq_true, List.all_eq_true, decide_eq_true_eq] at h
    have hf : ∀ i, (hi : i < l.length) → l[i].1.length ≤ 64 ∧ l[i].2.length ≤ 256 ∧ (i = 0 ∨ compareBytes (l.getD (i - 1) ([], [])).1 l[i].1 < 0) := fun i hi => by
      have := h.1 i (by simpa using hi)
      rw [fineP_at hi] at this
      simpa [and_assoc] using this
    refine ⟨up_adj l fun i hi => ?_, fun x hx => ?_, h.2⟩
    · have := (hf (i + 1) hi).2.2
      rcases this with h0 | h0
      · omega
      · rwa [Nat.add_sub_cancel, getD_at _ (by omega)] at h0
    · obtain ⟨i, hi, rfl⟩ := List.getElem_of_mem hx
      exact ⟨(hf i hi).1, (hf i hi).2.1⟩
  · rintro ⟨hu, hf, hs⟩
    rw [rightP_fine fun j hj => ?_]
    · simpa using hs
    · rw [fineP_at hj]
      have := hf _ (List.getElem_mem hj)
      simp only [Bool.and_eq_true, decide_eq_true_eq, Bool.or_eq_true]
      refine ⟨⟨this.1, this.2⟩, ?_⟩
      rcases Nat.eq_zero_or_pos j with h0 | h0
      · exact .inl h0
      · right
        rw [getD_at _ (by omega)]
        exact List.pairwise_iff_getElem.1 hu (j - 1) j (by omega) hj (by omega)
theorem up_key {l : PL} (h : Up l) {a b : List UInt8 × List UInt8} (ha : a ∈ l) (hb : b ∈ l) (e : a.1 = b.1) : a = b := by
  obtain ⟨i, hi, rfl⟩ := List.getElem_of_mem ha
  obtain ⟨j, hj, rfl⟩ := List.getElem_of_mem hb
  rcases Nat.lt_trichotomy i j with hij | hij | hij
  · have := List.pairwise_iff_getElem.1 h i j hi hj hij
    rw [e] at this
    exact absurd this (cmp_irrefl _)
  · subst hij; rfl
  · have := List.pairwise_iff_getElem.1 h j i hj hi hij
    rw [e] at this
    exact absurd this (cmp_irrefl _)
theorem getP_iff {l : PL} (h : Up l) (o v : List UInt8) : getP l o = some v ↔ (o, v) ∈ l := by
  unfold getP
  constructor
  · intro hg
    obtain ⟨a, ha, rfl⟩ := Option.map_eq_some_iff.1 hg
    have h1 := List.find?_some ha
    have h1 : a.1 = o := by simpa using h1
    have h2 := List.mem_of_find?_eq_some ha
    rw [← h1]
    exact h2
  · intro hm
    cases hf : l.find? (fun a => decide (a.1 = o)) with
    | none =>
      have := List.find?_eq_none.1 hf _ hm
      simp at this
    | some a =>
      have h1 := List.find?_some hf
      have h1 : a.1 = o := by simpa using h1
      have h2 := List.mem_of_find?_eq_some hf
      rw [up_key h h2 hm h1]
      rfl
theorem getP_none {l : PL} (o : List UInt8) : getP l o = none ↔ ∀ a ∈ l, a.1 ≠ o := by
  unfold getP
  rw [Option.map_eq_none_iff, List.find?_eq_none]
  simp
/-- two rising lists with the same pairs are one -/
theorem up_ext : ∀ (l m : PL), Up l → Up m → (∀ x, x ∈ l ↔ x ∈ m) → l = m
  | [], [], _, _, _ => rfl
  | [], b :: m, _, _, h => by have := (h b).2 (by simp); simp at this
  | a :: l, [], _, _, h => by have := (h a).1 (by simp); simp at this
  | a :: l, b :: m, hl, hm, h => by
    obtain ⟨la, hl'⟩ := List.pairwise_cons.1 hl
    obtain ⟨mb, hm'⟩ := List.pairwise_cons.1 hm
    have hab : a = b := by
      have h1 := (h a).1 (by simp)
      have h2 := (h b).2 (by simp)
      rcases List.mem_cons.1 h1 with h1 | h1
      · exact h1
      · rcases List.mem_cons.1 h2 with h2 | h2
        · exact h2.symm
        · have x1 := mb a h1
          have x2 := la b h2
          exact absurd (cmp_trans _ _ _ x1 x2) (cmp_irrefl _)
    subst hab
    rw [up_ext l m hl' hm' fun x => ?_]
    constructor
    · intro hx
      rcases List.mem_cons.1 ((h x).1 (by simp [hx])) with rfl | hx'
      · exact absurd (la x hx) (cmp_irrefl _)
      · exact hx'
    · intro hx
      rcases List.mem_cons.1 ((h x).2 (by simp [hx])) with rfl | hx'
      · exact absurd (mb x hx) (cmp_irrefl _)
      · exact hx'
end Go.Proofs.Ytkmeoobbjdbhjaa
