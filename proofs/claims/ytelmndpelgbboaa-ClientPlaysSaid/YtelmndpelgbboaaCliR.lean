import Derived.Test.YtelmndpelgbboaaCliQ
/-! what holds of a client all the time: its answers' numbers rise -/
namespace Go.Proofs.Ytelmndpelgbboaa
open Go.RowKit Go.Conc Go.Cov Go.Lib
def nums (s : Cs) : List Int := s.ans.map An.n
def Onc (g : Int) (s : Cs) (t : Int) : Prop := Fine s ∧ s.number = 5 ∧ s.f = 1 ∧ s.room = 64 ∧ s.again = 1 + g ∧ (s.body.length ≤ s.bc ∧ s.bc ≤ maxLen) ∧ (t :: nums s).Pairwise (· < ·) ∧ ∀ n ∈ t :: nums s, n ≤ s.count ∧ (s.waits = true → n < s.count)
theorem onc_new {g : Int} (hok : okC 1 5 (1 + g) 64) (xb xc : Nat) : Onc g (new0 1 5 (1 + g) 64 xb xc) 0 := by
  refine ⟨⟨hok, by show (0 : Int) ≤ 0; omega, by show (0 : Int) ≤ 1073741824; omega, by show (0 : Int) ≤ 0; omega, by show (0 : Int) ≤ 1099511627776; omega, by show (0 : Nat) ≤ _; omega, fun h => by cases h⟩, rfl, rfl, rfl, rfl, ⟨Nat.le_refl _, by show (0 : Nat) ≤ maxLen; omega⟩, by simp [nums, new0], fun n hn => ?_⟩
  have : n = 0 := by simpa [nums, new0] using hn
  subst this
  exact ⟨by show (0 : Int) ≤ 0; omega, fun h => by cases h⟩
theorem onc_ask {g t : Int} {s : Cs} (h : Onc g s t) {b : List UInt8} (hm : mayAsk s b) (V : Option Addr) {k : Nat} (hk : b.length ≤ k ∧ k ≤ maxLen) : Onc g (asks s b V k) t := by
  obtain ⟨⟨f1, f2, f3, f4, f5, f6, f7⟩, h2, h3, h4, h5, h6, h7, h8⟩ := h
  obtain ⟨m1, m2, m3, m4⟩ := hm
  refine ⟨⟨f1, f2, f3, by show (0 : Int) ≤ s.count + 1; omega, by show s.count + 1 ≤ 1099511627776; omega, f6, fun _ => m4⟩, h2, h3, h4, h5, hk, h7, fun n hn => ?_⟩
  have := (h8 n hn).1
  exact ⟨by show n ≤ s.count + 1; omega, fun _ => by show n < s.count + 1; omega⟩
theorem onc_take {g t : Int} {s : Cs} (h : Onc g s t) {x : An} {l : List An} (hx : s.ans = x :: l) : Onc g { s with ans := l } x.n ∧ t < x.n ∧ x.n ≤ s.count := by
  obtain ⟨⟨f1, f2, f3, f4, f5, f6, f7⟩, h2, h3, h4, h5, h6, h7, h8⟩ := h
  have hn : nums s = x.n :: l.map An.n := by unfold nums; rw [hx]; rfl
  rw [hn] at h7 h8
  rw [hx] at f6 f7
  rw [List.length_cons] at f6 f7
  rw [List.pairwise_cons] at h7
  refine ⟨⟨⟨f1, f2, f3, f4, f5, by show l.length ≤ s.room.toNat; omega, fun hw => by have := f7 hw; show l.length < s.room.toNat; omega⟩, h2, h3, h4, h5, h6, h7.2, fun n hn => h8 n (List.mem_cons_of_mem _ hn)⟩, h7.1 _ List.mem_cons_self, (h8 x.n (by simp)).1⟩
theorem onc_sees {g t : Int} {s : Cs} (h : Onc g s t) {m : Mg} (hm : mine s m) : Onc g (sees s m) t := by
  obtain ⟨⟨f1, f2, f3, f4, f5, f6, f7⟩, h2, h3, h4, h5, h6, h7, h8⟩ := h
  obtain ⟨m1, m2, m3, m4⟩ := hm
  refine ⟨⟨f1, ?_, ?_, f4, f5, f6, f7⟩, h2, h3, h4, h5, h6, h7, h8⟩
  · show 0 ≤ (if s.view < m.view then m.view else s.view); split <;> omega
  · show (if s.view < m.view then m.view else s.view) ≤ _; split <;> omega
theorem onc_handle {g t : Int} {s : Cs} (h : Onc g s t) {m : Mg} (hm : mine s m) (V : Option Addr) (c : Nat) : Onc g (takes s m V c) t ∧ (takes s m V c).count = s.count := by
  unfold takes
  split
  · rename_i hw
    obtain ⟨hw, he⟩ := hw
    obtain ⟨⟨f1, f2, f3, f4, f5, f6, f7⟩, h2, h3, h4, h5, h6, h7, h8⟩ := onc_sees h hm
    have hws : (sees s m).waits = true := hw
    have f8 := f7 hws
    have hl : (sees s m).ans = s.ans := rfl
    have hc : (sees s m).count = s.count := rfl
    have hn : nums ({ sees s m with waits := false, ans := s.ans ++ [⟨m.req, V, c, m.body⟩] } : Cs) = nums (sees s m) ++ [m.req] := by simp [nums, hl]
    refine ⟨⟨⟨f1, f2, f3, f4, f5, ?_, fun hh => by cases hh⟩, h2, h3, h4, h5, h6, ?_, fun n hn2 => ?_⟩, rfl⟩
    · show (s.ans ++ [_]).length ≤ _
      rw [List.length_append, List.length_singleton, ← hl]; exact f8
    · rw [hn, ← List.cons_append, List.pairwise_append]
      refine ⟨h7, by simp, fun a ha b hb => ?_⟩
      rw [List.mem_singleton.1 hb, ← he, ← hc]
      exact (h8 a ha).2 hws
    · refine ⟨?_, fun hh => by cases hh⟩
      rw [hn, ← List.cons_append] at hn2
      rcases List.mem_append.1 hn2 with hn2 | hn2
      · exact (h8 n hn2).1
      · rw [List.mem_singleton.1 hn2]; exact Int.le_of_eq he.symm
  · exact ⟨onc_sees h hm, rfl⟩
theorem onc_tick {g t : Int} {s : Cs} (h : Onc g s t) : Onc g (ticked s) t := h
theorem at_all {s : Cs} {r : Rq} (h : r ∈ atAll s) (hf : s.f = 1) : r.n = s.number ∧ r.c = s.count ∧ 0 ≤ r.q ∧ r.q ≤ 2 := by
  unfold atAll at h
  split at h
  · unfold rqs at h
    obtain ⟨i, hi, rfl⟩ := List.mem_map.1 h
    rw [hf] at hi
    have hi : i < 3 := by simpa using hi
    exact ⟨rfl, rfl, by show (0 : Int) ≤ i; omega, by show (i : Int) ≤ 2; omega⟩
  · cases h
theorem at_len {s : Cs} (hf : s.f = 1) : (atAll s).length ≤ 3 := by
  unfold atAll
  split
  · rw [rqs_len, hf]; decide
  · simp
end Go.Proofs.Ytelmndpelgbboaa
