import Derived.Test.YtgkdnhbhmebmeaaDoorSeaC
namespace Go.Proofs.YtgkdnhbhmebmeaaDoor
open Go.RowKit Go.Cov
def sealed (l : List UInt8) : List UInt8 := sumBytes l ++ l
theorem sealed_length (l : List UInt8) : (sealed l).length = 4 + l.length := by simp [sealed, sumBytes]; omega
def openL (l : List UInt8) : List UInt8 := if l.length < 4 then [] else if sealed (l.drop 4) = l then l.drop 4 else []
def openE (l : List UInt8) : Int := if l.length < 4 then 11 else if sealed (l.drop 4) = l then 0 else 21
theorem cut4 {A : Option Addr} {c : Nat} {l : List UInt8} {w : World} (h : Rd w A (l.map byt)) (hc : l.length ≤ c) (h4 : 4 ≤ l.length) :
    ∃ A1, Rd w A1 ((l.drop 4).map byt) ∧ ∀ W, (Instr.sliceAt 23 (.slice A l.length c) (some (.int .i64 4)) none none).run Tryd.prog W = .ok (.slice A1 (l.drop 4).length (c - 4)) W := by
  refine ⟨cutA A c 4 1, ?_, fun W => ?_⟩
  · have := h.cutA 4 1 (c := c) (by simpa using hc)
    simpa using this
  · rw [run_slice_from (P := Tryd.prog) Tryd.underlying23 infoB A l.length c 4 .i64 4 rfl h4 W, List.length_drop]
set_option maxHeartbeats 400000 in
theorem open_any {A : Option Addr} {c : Nat} {l : List UInt8} {w : World} (h : Rd w A (l.map byt)) (hc : l.length ≤ c) (hl : l.length ≤ 140737488351236) (ht : Tab w) :
    Calls Tryd.prog 26 #[.slice A l.length c] w fun e w' => ∃ v, e = .returned (.tuple #[v, .int .i64 (openE l)]) ∧ w'.ownsRow w.heap.size 5 1 v (openL l).length ((openL l).map byt) ∧ Below w.heap.size w w' := by
  by_cases h4 : l.length < 4
  · have e1 : openL l = [] := by rw [openL, if_pos h4]
    have e2 : openE l = 11 := by rw [openE, if_pos h4]
    rw [e1, e2]
    clear e1 e2
    go_enter Tryd.func26, Tryd.ntmps26
    go_wp2_with fail
    go_ret2
    exact ⟨_, rfl, World.ownsRow_nil _ _ _ _, Below.refl _ _⟩
  · obtain ⟨A1, hr1, hsl⟩ := cut4 h hc (by omega)
    have hld : (l.drop 4).length ≤ 140737488351232 := by simp; omega
    have hsl' := sealed_length (l.drop 4)
    by_cases hs : sealed (l.drop 4) = l
    · have e1 : openL l = l.drop 4 := by rw [openL, if_neg h4, if_pos hs]
      have e2 : openE l = 0 := by rw [openE, if_neg h4, if_pos hs]
      rw [e1, e2]
      have hse := hid hs
      clear e1 e2 hs
      revert hld hr1 hsl hse hsl'
      generalize l.drop 4 = m
      intro hr1 hsl hld hsl' hse
      have Hl := hid hsl'
      clear hsl'
      go_enter Tryd.func26, Tryd.ntmps26
      go_wp2_with fail
      refine (seal_any hr1 hld ht).mono ?_
      rintro e w1 ⟨v1, rfl, hown1, hb1⟩
      obtain ⟨A2, c2, rfl, _⟩ := own_shape hown1
      rw [← Hl.out] at hown1 ⊢
      have hr2 : Rd w1 A2 ((sealed m).map byt) := own_rd hown1
      have hr3 : Rd w1 A (l.map byt) := h.below hb1
      rw [hse.out] at hr2 ⊢
      go_wp2_with fail
      refine (equal_yes hr2 hr3).mono ?_
      rintro e w2 ⟨rfl, rfl⟩
      go_wp2_with fail
      refine (clone_any (hr1.below hb1) (Nat.le_trans hld (by decide))).mono ?_
      rintro e w3 ⟨v3, rfl, hown3, hb3⟩
      go_wp2_with fail
      go_ret2
      exact ⟨_, rfl, own_mono hown3 hb1.size, hb1.trans (hb3.mono hb1.size)⟩
    · have e1 : openL l = [] := by rw [openL, if_neg h4, if_neg hs]
      have e2 : openE l = 21 := by rw [openE, if_neg h4, if_neg hs]
      rw [e1, e2]
      clear e1 e2
      revert hld hr1 hsl hs hsl'
      generalize l.drop 4 = m
      intro hr1 hsl hld hsl' hs
      have Hl := hid hsl'
      clear hsl'
      go_enter Tryd.func26, Tryd.ntmps26
      go_wp2_with fail
      refine (seal_any hr1 hld ht).mono ?_
      rintro e w1 ⟨v1, rfl, hown1, hb1⟩
      obtain ⟨A2, c2, rfl, _⟩ := own_shape hown1
      rw [← Hl.out] at hown1 ⊢
      have hr2 : Rd w1 A2 ((sealed m).map byt) := own_rd hown1
      have hr3 : Rd w1 A (l.map byt) := h.below hb1
      go_wp2_with fail
      refine (equal_no hr2 hr3 hs).mono ?_
      rintro e w2 ⟨rfl, rfl⟩
      go_wp2_with fail
      go_ret2
      exact ⟨_, rfl, World.ownsRow_nil _ _ _ _, hb1⟩
end Go.Proofs.YtgkdnhbhmebmeaaDoor
