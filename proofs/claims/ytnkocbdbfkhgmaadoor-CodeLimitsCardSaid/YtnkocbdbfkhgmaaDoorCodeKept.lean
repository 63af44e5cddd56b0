import Derived.Test.YtnkocbdbfkhgmaaDoorCodeN
/-! CodeKept: what is read of any bytes has the bytes as they stood. -/
namespace Go.Proofs.YtnkocbdbfkhgmaaDoor
open Go.RowKit Go.Cov
theorem readMo_cases (l : List UInt8) : (∃ m, readMo l = (m, 0) ∧ rightMo m = true ∧ putMo m = l) ∨ ((readMo l).1 = zeroMo ∧ (readMo l).2 ≠ 0) := by
  obtain ⟨⟨m, s⟩, hg⟩ : ∃ q, getMo l (0, 0) = q := ⟨_, rfl⟩
  have hr := readMo_is hg
  by_cases h : endM l.length s (rightMo m) = 0
  · rw [if_pos h, h] at hr
    have := mod_kept hr
    exact .inl ⟨m, hr, this⟩
  · rw [if_neg h] at hr
    right; rw [hr]; exact ⟨rfl, h⟩
set_option maxRecDepth 100000 in
set_option maxHeartbeats 6400000 in
theorem kept_law {A : Option Addr} {c : Nat} {l : List UInt8} {w : World} (h : Rd w A (l.map byt)) (hc : l.length ≤ c) (hl : l.length ≤ 140737488351236) (ht : STab w) :
    Calls Tryd.prog 5 #[.slice A l.length c] w fun e w' => e = .returned (.bool true) ∧ Below w.heap.size w w' := by
  replace ht := hid ht
  go_enter Tryd.func5, Tryd.ntmps5
  go_wp2_with fail
  refine (head_any w ht.out).mono ?_
  rintro e w2 ⟨rfl, hb2⟩
  have h2 := h.below hb2
  clear ht
  have K := hid (get_any h2 hc hl)
  go_wp2_with fail
  refine K.out.mono ?_
  rintro e w3 ⟨m, rfl, hm, hr, hb3⟩
  clear K
  have h3 := h2.below hb3
  have b3 := below_step hb2 hb3
  have hcs := readMo_cases l
  have bA := below_alloc w3 (.cells #[.slice m.cA m.cs.length m.cc, .slice m.tA m.ts.length m.tc] 25)
  have R := Row.new w3 [.slice m.cA m.cs.length m.cc, .slice m.tA m.ts.length m.tc] 25
  go_upto_region 3 with fail
  change Row (w3.alloc (.cells #[.slice m.cA m.cs.length m.cc, .slice m.tA m.ts.length m.tc] 25)) _ _ at R
  obtain ⟨kM, hkM⟩ : ∃ k, k = w3.heap.size := ⟨_, rfl⟩
  generalize w3.alloc (.cells #[.slice m.cA m.cs.length m.cc, .slice m.tA m.ts.length m.tc] 25) = w4 at bA R ⊢
  rw [← hkM] at R ⊢
  replace hkM := hid hkM
  have h4 := h3.below bA
  have hr4 := hr.below bA
  have b4 := below_step b3 bA
  clear h h2 h3 hr bA b3 hb2 hb3
  rcases hcs with ⟨md, he, hR, hk⟩ | ⟨hz, he⟩
  · rw [he] at hm ⊢
    dsimp only at hm ⊢
    have K := put_any hr4
    have KR := right_any hr4
    rw [hm] at K KR
    rw [bytesMo_ok hR, hk] at K
    rw [hR] at KR
    have C0 := (R.2 0 _ rfl).1
    have C1 := (R.2 1 _ rfl).1
    replace K := hid K
    clear KR
    replace he := hid he
    replace hm := hid hm
    replace hR := hid hR
    replace hk := hid hk
    replace R := hid R
    go_wp2_with fail
    refine K.out.mono ?_
    rintro e w5 ⟨v5, rfl, own5, hb5⟩
    clear K C0 C1
    obtain ⟨A5, c5, rfl, _⟩ := own_shape own5
    have KR := right_any (hr4.below hb5)
    rw [hm.out, hR.out] at KR
    replace KR := hid KR
    have c1 := conv_name w5 (own_rd own5) c5
    have c2 := conv_name w5 (h4.below hb5) c
    have R5 := R.out.below hb5
    have b5 := below_step b4 hb5
    have C0 := (R5.2 0 _ rfl).1
    have C1 := (R5.2 1 _ rfl).1
    clear own5 hb5 R b4 h4 hr4
    replace R5 := hid R5
    go_wp2_with fail
    refine KR.out.mono ?_
    rintro e w6 ⟨rfl, hb6⟩
    go_wp2_with fail
    go_ret
    exact ⟨rfl, below_step b5 hb6⟩
  · rw [hz] at hm
    obtain ⟨hm1, hm2⟩ := mo_nil hm
    obtain ⟨mA, mc, ms, tA, tc, ts⟩ := m
    dsimp only at hm1 hm2
    subst hm1 hm2
    have hne : ((readMo l).2 != 0) = true := by simpa using he
    generalize (readMo l).2 = er at hne ⊢
    have C0 := (R.2 0 _ rfl).1
    have C1 := (R.2 1 _ rfl).1
    clear he hz hm hr4 h4
    replace R := hid R
    go_wp2_with fail
    go_ret
    exact ⟨rfl, b4⟩
end Go.Proofs.YtnkocbdbfkhgmaaDoor
