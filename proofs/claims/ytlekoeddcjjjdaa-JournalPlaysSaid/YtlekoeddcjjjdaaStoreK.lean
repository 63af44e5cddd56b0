import Derived.Test.YtlekoeddcjjjdaaStoreJ
namespace Go.Proofs.Ytlekoeddcjjjdaa
open Go.Cov Go.Lib
theorem cmp_gt {a b : List UInt8} (h : ¬ 0 < compareBytes a b) (hn : a ≠ b) : compareBytes a b < 0 := by
  have : compareBytes a b ≠ 0 := fun h0 => hn (cmp_zero _ _ h0)
  omega
theorem cmp_flip {a b : List UInt8} (h : 0 < compareBytes a b) : compareBytes b a < 0 := by
  rw [cmp_swap a b]; omega
/-- the place of a key in a rising list -/
theorem at_split (L : PL) (k : List UInt8) (hU : Up L) : ∃ a mid b, L = a ++ mid ++ b ∧ L.take (atP L k).1 = a ∧ L.drop (atP L k).2 = b ∧ (∀ x ∈ a, compareBytes x.1 k < 0) ∧ (∀ x ∈ b, compareBytes k x.1 < 0) ∧ (mid = [] ∧ L.findIdx? (fun a => decide (a.1 = k)) = none ∧ getP L k = none ∨ ∃ o i, mid = [(k, o)] ∧ L.findIdx? (fun a => decide (a.1 = k)) = some i ∧ L.take i = a ∧ L.drop (i + 1) = b ∧ getP L k = some o) := by
  unfold atP
  cases hf : L.findIdx? (fun a => decide (a.1 = k)) with
  | some i =>
    obtain ⟨hi, hk, hb⟩ := List.findIdx?_eq_some_iff_getElem.1 hf
    have hk : L[i].1 = k := by simpa using hk
    have hL : L = L.take i ++ [L[i]] ++ L.drop (i + 1) := by
      rw [List.append_assoc]
      conv => lhs; rw [← List.take_append_drop i L, List.drop_eq_getElem_cons hi]
      rfl
    have hp := hU
    unfold Up at hp
    rw [hL, List.pairwise_append, List.pairwise_append] at hp
    obtain ⟨⟨h1, h2, h3⟩, h4, h5⟩ := hp
    refine ⟨L.take i, [L[i]], L.drop (i + 1), hL, rfl, rfl, ?_, ?_, .inr ⟨L[i].2, i, ?_, rfl, rfl, rfl, ?_⟩⟩
    · intro x hx
      have := h3 x hx L[i] (List.mem_singleton.2 rfl)
      rwa [hk] at this
    · intro x hx
      have := h5 L[i] (List.mem_append_right _ (List.mem_singleton.2 rfl)) x hx
      rwa [hk] at this
    · rw [← hk]
    · rw [getP_iff hU, ← hk]
      exact List.getElem_mem hi
  | none =>
    have hno : ∀ x ∈ L, x.1 ≠ k := fun x hx => by
      have := List.findIdx?_eq_none_iff.1 hf x hx
      simpa using this
    have hg : getP L k = none := (getP_none k).2 hno
    cases hs : L.findIdx? (fun a => decide (0 < compareBytes a.1 k)) with
    | none =>
      have hall : ∀ x ∈ L, compareBytes x.1 k < 0 := fun x hx => by
        have := List.findIdx?_eq_none_iff.1 hs x hx
        exact cmp_gt (by simpa using this) (hno x hx)
      exact ⟨L, [], [], by simp, by simp, by simp, hall, by simp, .inl ⟨rfl, rfl, hg⟩⟩
    | some j =>
      obtain ⟨hj, hk, hb⟩ := List.findIdx?_eq_some_iff_getElem.1 hs
      have hk : 0 < compareBytes L[j].1 k := by simpa using hk
      refine ⟨L.take j, [], L.drop j, by simp, rfl, rfl, ?_, ?_, .inl ⟨rfl, rfl, hg⟩⟩
      · intro x hx
        obtain ⟨n, hn, rfl⟩ := List.getElem_of_mem hx
        have hn' : n < j ∧ n < L.length := by rw [List.length_take] at hn; omega
        have := hb n hn'.1
        rw [List.getElem_take]
        exact cmp_gt (by simpa using this) (hno _ (List.getElem_mem hn'.2))
      · intro x hx
        rw [List.drop_eq_getElem_cons hj] at hx
        rcases List.mem_cons.1 hx with rfl | hx
        · exact cmp_flip hk
        · have hp := hU
          unfold Up at hp
          rw [← List.take_append_drop j L, List.pairwise_append, List.drop_eq_getElem_cons hj] at hp
          exact cmp_trans _ _ _ (cmp_flip hk) ((List.pairwise_cons.1 hp.2.1).1 x hx)
theorem ins_split (L : PL) (k v : List UInt8) (hU : Up L) : ∃ a mid b, L = a ++ mid ++ b ∧ insP L k v = a ++ (k, v) :: b ∧ (∀ x ∈ a, compareBytes x.1 k < 0) ∧ (∀ x ∈ b, compareBytes k x.1 < 0) ∧ (mid = [] ∧ getP L k = none ∨ ∃ o, mid = [(k, o)] ∧ getP L k = some o) := by
  obtain ⟨a, mid, b, h1, h2, h3, h4, h5, h6⟩ := at_split L k hU
  refine ⟨a, mid, b, h1, ?_, h4, h5, ?_⟩
  · unfold insP; rw [h2, h3]
  · rcases h6 with ⟨r1, _, r2⟩ | ⟨o, i, r1, _, _, _, r2⟩
    · exact .inl ⟨r1, r2⟩
    · exact .inr ⟨o, r1, r2⟩
theorem del_split (L : PL) (k : List UInt8) (hU : Up L) : ∃ a mid b, L = a ++ mid ++ b ∧ delP L k = a ++ b ∧ (∀ x ∈ a, compareBytes x.1 k < 0) ∧ (∀ x ∈ b, compareBytes k x.1 < 0) ∧ (mid = [] ∧ getP L k = none ∨ ∃ o, mid = [(k, o)] ∧ getP L k = some o) := by
  obtain ⟨a, mid, b, h1, h2, h3, h4, h5, h6⟩ := at_split L k hU
  refine ⟨a, mid, b, h1, ?_, h4, h5, ?_⟩
  · unfold delP
    rcases h6 with ⟨r1, r3, r2⟩ | ⟨o, i, r1, r3, r4, r5, r2⟩
    · rw [r3]
      dsimp only
      rw [r1, List.append_nil] at h1
      exact h1
    · rw [r3]
      dsimp only
      rw [r4, r5]
  · rcases h6 with ⟨r1, _, r2⟩ | ⟨o, i, r1, _, _, _, r2⟩
    · exact .inl ⟨r1, r2⟩
    · exact .inr ⟨o, r1, r2⟩
theorem lt_ne {a b : List UInt8} (h : compareBytes a b < 0) : a ≠ b := by
  rintro rfl; exact cmp_irrefl _ h
theorem lt_ne' {a b : List UInt8} (h : compareBytes a b < 0) : b ≠ a := fun e => lt_ne h e.symm
theorem ins_mem {L : PL} {k v : List UInt8} (hU : Up L) (x : List UInt8 × List UInt8) : x ∈ insP L k v ↔ x = (k, v) ∨ (x ∈ L ∧ x.1 ≠ k) := by
  obtain ⟨a, mid, b, h1, h2, h3, h4, h5⟩ := ins_split L k v hU
  rw [h2, h1]
  constructor
  · intro h
    rcases List.mem_append.1 h with h | h
    · exact .inr ⟨by simp [h], lt_ne (h3 x h)⟩
    · rcases List.mem_cons.1 h with h | h
      · exact .inl h
      · exact .inr ⟨by simp [h], lt_ne' (h4 x h)⟩
  · rintro (rfl | ⟨h, hn⟩)
    · simp
    · rcases List.mem_append.1 h with h | h
      · rcases List.mem_append.1 h with h | h
        · simp [h]
        · rcases h5 with ⟨rfl, _⟩ | ⟨o, rfl, _⟩
          · simp at h
          · rw [List.mem_singleton.1 h] at hn
            exact absurd rfl hn
      · simp [h]
theorem del_mem {L : PL} {k : List UInt8} (hU : Up L) (x : List UInt8 × List UInt8) : x ∈ delP L k ↔ x ∈ L ∧ x.1 ≠ k := by
  obtain ⟨a, mid, b, h1, h2, h3, h4, h5⟩ := del_split L k hU
  rw [h2, h1]
  constructor
  · intro h
    rcases List.mem_append.1 h with h | h
    · exact ⟨by simp [h], lt_ne (h3 x h)⟩
    · exact ⟨by simp [h], lt_ne' (h4 x h)⟩
  · rintro ⟨h, hn⟩
    rcases List.mem_append.1 h with h | h
    · rcases List.mem_append.1 h with h | h
      · simp [h]
      · rcases h5 with ⟨rfl, _⟩ | ⟨o, rfl, _⟩
        · simp at h
        · rw [List.mem_singleton.1 h] at hn
          exact absurd rfl hn
    · simp [h]
theorem ins_up {L : PL} {k v : List UInt8} (hU : Up L) : Up (insP L k v) := by
  obtain ⟨a, mid, b, h1, h2, h3, h4, h5⟩ := ins_split L k v hU
  have hp := hU
  unfold Up at hp ⊢
  rw [h1, List.pairwise_append, List.pairwise_append] at hp
  rw [h2, List.pairwise_append, List.pairwise_cons]
  refine ⟨hp.1.1, ⟨h4, hp.2.1⟩, fun x hx y hy => ?_⟩
  rcases List.mem_cons.1 hy with rfl | hy
  · exact h3 x hx
  · exact hp.2.2 x (by simp [hx]) y hy
theorem del_up {L : PL} {k : List UInt8} (hU : Up L) : Up (delP L k) := by
  obtain ⟨a, mid, b, h1, h2, h3, h4, h5⟩ := del_split L k hU
  have hp := hU
  unfold Up at hp ⊢
  rw [h1, List.pairwise_append, List.pairwise_append] at hp
  rw [h2, List.pairwise_append]
  exact ⟨hp.1.1, hp.2.1, fun x hx y hy => hp.2.2 x (by simp [hx]) y hy⟩
theorem ins_fit {L : PL} {k v : List UInt8} (hU : Up L) (hF : Fit L) (hk : k.length ≤ 64) (hv : v.length ≤ 256) : Fit (insP L k v) := by
  intro x hx
  rcases (ins_mem hU x).1 hx with rfl | ⟨hx, _⟩
  · exact ⟨hk, hv⟩
  · exact hF x hx
theorem del_fit {L : PL} {k : List UInt8} (hU : Up L) (hF : Fit L) : Fit (delP L k) := fun x hx => hF x ((del_mem hU x).1 hx).1
theorem size_app (a b : PL) : sizeP (a ++ b) = sizeP a + sizeP b := by
  unfold sizeP; rw [sumP_app, List.length_append]; omega
theorem size_cons (x : List UInt8 × List UInt8) (b : PL) : sizeP (x :: b) = 8 + (x.1.length + x.2.length) + sizeP b := by
  unfold sizeP; rw [sumP, List.length_cons]; omega
theorem size_nil : sizeP [] = 0 := rfl
theorem size_ins {L : PL} {k v : List UInt8} (hU : Up L) : getP L k = none ∧ sizeP (insP L k v) = sizeP L + 8 + k.length + v.length ∨ ∃ o, getP L k = some o ∧ sizeP (insP L k v) + o.length = sizeP L + v.length := by
  obtain ⟨a, mid, b, h1, h2, h3, h4, h5⟩ := ins_split L k v hU
  rw [h2, size_app, size_cons]
  have hL : sizeP L = sizeP a + sizeP mid + sizeP b := by conv => lhs; rw [h1, size_app, size_app]
  rw [hL]
  rcases h5 with ⟨rfl, h5⟩ | ⟨o, rfl, h5⟩
  · exact .inl ⟨h5, by rw [size_nil]; dsimp only; omega⟩
  · exact .inr ⟨o, h5, by rw [size_cons, size_nil]; dsimp only; omega⟩
theorem size_del {L : PL} {k v : List UInt8} (hU : Up L) (hg : getP L k = some v) : sizeP (delP L k) + 8 + k.length + v.length = sizeP L := by
  obtain ⟨a, mid, b, h1, h2, h3, h4, h5⟩ := del_split L k hU
  rw [h2, size_app]
  have hL : sizeP L = sizeP a + sizeP mid + sizeP b := by conv => lhs; rw [h1, size_app, size_app]
  rw [hL]
  rcases h5 with ⟨rfl, h5⟩ | ⟨o, rfl, h5⟩
  · rw [h5] at hg; cases hg
  · rw [h5] at hg
    injection hg with hg
    subst hg
    rw [size_cons, size_nil]; dsimp only; omega
theorem size_del_le {L : PL} {k : List UInt8} (hU : Up L) : sizeP (delP L k) ≤ sizeP L := by
  obtain ⟨a, mid, b, h1, h2, _⟩ := del_split L k hU
  have hL : sizeP L = sizeP a + sizeP mid + sizeP b := by conv => lhs; rw [h1, size_app, size_app]
  rw [h2, size_app, hL]; omega
theorem get_ext {L M : PL} {o : List UInt8} (hL : Up L) (hM : Up M) (h : ∀ v, (o, v) ∈ L ↔ (o, v) ∈ M) : getP L o = getP M o := by
  apply Option.ext
  intro v
  rw [getP_iff hL, getP_iff hM, h]
theorem get_ins {L : PL} {k v : List UInt8} (hU : Up L) : getP (insP L k v) k = some v := by
  rw [getP_iff (ins_up hU), ins_mem hU]
  exact .inl rfl
theorem get_ins_other {L : PL} {k v o : List UInt8} (hU : Up L) (hn : o ≠ k) : getP (insP L k v) o = getP L o := by
  refine get_ext (ins_up hU) hU fun u => ?_
  rw [ins_mem hU]
  constructor
  · rintro (h | h)
    · injection h with h _
      exact absurd h hn
    · exact h.1
  · exact fun h => .inr ⟨h, hn⟩
theorem get_del {L : PL} {k : List UInt8} (hU : Up L) : getP (delP L k) k = none := by
  rw [getP_none]
  exact fun a ha => ((del_mem hU a).1 ha).2
theorem get_del_other {L : PL} {k o : List UInt8} (hU : Up L) (hn : o ≠ k) : getP (delP L k) o = getP L o := by
  refine get_ext (del_up hU) hU fun u => ?_
  rw [del_mem hU]
  exact ⟨fun h => h.1, fun h => ⟨h, hn⟩⟩
/-- two things put at unlike keys, in either order -/
theorem ins_comm {L : PL} {a b x y : List UInt8} (hU : Up L) (hn : a ≠ b) : insP (insP L a x) b y = insP (insP L b y) a x := by
  refine up_ext _ _ (ins_up (ins_up hU)) (ins_up (ins_up hU)) fun z => ?_
  rw [ins_mem (ins_up hU), ins_mem hU, ins_mem (ins_up hU), ins_mem hU]
  constructor
  · rintro (rfl | ⟨rfl | ⟨h1, h2⟩, h3⟩)
    · exact .inr ⟨.inl rfl, fun e => hn e.symm⟩
    · exact .inl rfl
    · exact .inr ⟨.inr ⟨h1, h3⟩, h2⟩
  · rintro (rfl | ⟨rfl | ⟨h1, h2⟩, h3⟩)
    · exact .inr ⟨.inl rfl, hn⟩
    · exact .inl rfl
    · exact .inr ⟨.inr ⟨h1, h3⟩, h2⟩
/-- a put into a right store that has room -/
theorem put_right {L : PL} {k v : List UInt8} (h : rightP L = true) (hk : ¬ (64 < k.length ∨ 256 < v.length)) (hs : ¬ 2048 < sizeP (insP L k v)) : rightP (insP L k v) = true := by
  obtain ⟨h1, h2, h3⟩ := (right_iff L).1 h
  exact (right_iff _).2 ⟨ins_up h1, ins_fit h1 h2 (by omega) (by omega), by omega⟩
theorem del_right {L : PL} {k : List UInt8} (h : rightP L = true) : rightP (delP L k) = true := by
  obtain ⟨h1, h2, h3⟩ := (right_iff L).1 h
  exact (right_iff _).2 ⟨del_up h1, del_fit h1 h2, Nat.le_trans (size_del_le h1) h3⟩
end Go.Proofs.Ytlekoeddcjjjdaa
