import Derived.Test.YtnkocbdbfkhgmaaDoorCodeN
/-! the ref's code: signs, what may be a module -/
namespace Go.Proofs.YtnkocbdbfkhgmaaDoor
open Go.RowKit Go.Cov
theorem sg_vals : sg.map (fun l => Value.string (str l)) = [.string ⟨#[]⟩, .string ⟨#[43]⟩, .string ⟨#[45]⟩, .string ⟨#[42]⟩, .string ⟨#[47]⟩, .string ⟨#[37]⟩, .string ⟨#[60]⟩, .string ⟨#[60, 61]⟩, .string ⟨#[62]⟩, .string ⟨#[62, 61]⟩, .string ⟨#[61, 61]⟩, .string ⟨#[33, 61]⟩, .string ⟨#[33]⟩] := rfl
set_option maxHeartbeats 1600000 in
theorem rsigns_any (w : World) : Calls Tryd.prog 46 #[] w fun e w' => ∃ A, e = .returned (.slice A 13 13) ∧ Rd w' A (sg.map (fun l => Value.string (str l))) ∧ Below w.heap.size w w' := by
  have bA := below_alloc w (.cells #[.string ⟨#[]⟩, .string ⟨#[43]⟩, .string ⟨#[45]⟩, .string ⟨#[42]⟩, .string ⟨#[47]⟩, .string ⟨#[37]⟩, .string ⟨#[60]⟩, .string ⟨#[60, 61]⟩, .string ⟨#[62]⟩, .string ⟨#[62, 61]⟩, .string ⟨#[61, 61]⟩, .string ⟨#[33, 61]⟩, .string ⟨#[33]⟩] 9)
  have rA := rd_box w #[.string ⟨#[]⟩, .string ⟨#[43]⟩, .string ⟨#[45]⟩, .string ⟨#[42]⟩, .string ⟨#[47]⟩, .string ⟨#[37]⟩, .string ⟨#[60]⟩, .string ⟨#[60, 61]⟩, .string ⟨#[62]⟩, .string ⟨#[62, 61]⟩, .string ⟨#[61, 61]⟩, .string ⟨#[33, 61]⟩, .string ⟨#[33]⟩] 9
  replace bA := hid bA
  replace rA := hid rA
  go_enter Tryd.func46, Tryd.ntmps46
  go_wp2_with fail
  go_ret
  exact ⟨some ⟨w.heap.size, 0, none⟩, rfl, by rw [sg_vals]; exact rA.out, bA.out⟩
set_option maxHeartbeats 1600000 in
theorem rsign_any (w : World) (n : Int) : Calls Tryd.prog 20 #[.int .i64 n] w fun e w' => e = .returned (.string (str (signD n))) ∧ Below w.heap.size w w' := by
  have K := hid (rsigns_any w)
  by_cases h1 : n < 0
  · have e : signD n = [] := by unfold signD; rw [if_neg (by omega)]
    have j1 : decide (n < 0) = true := decide_eq_true h1
    rw [e]
    clear e h1
    go_enter Tryd.func20, Tryd.ntmps20
    go_wp2_with fail
    refine K.out.mono ?_
    rintro e w2 ⟨A, rfl, rA, hb⟩
    replace rA := hid rA
    go_wp2_with fail
    go_ret
    exact ⟨rfl, hb⟩
  · have j1 : decide (n < 0) = false := decide_eq_false h1
    by_cases h2 : 13 ≤ n
    · have e : signD n = [] := by unfold signD; rw [if_neg (by omega)]
      have j2 : decide (13 ≤ n) = true := decide_eq_true h2
      rw [e]
      clear e h1 h2
      go_enter Tryd.func20, Tryd.ntmps20
      go_wp2_with fail
      refine K.out.mono ?_
      rintro e w2 ⟨A, rfl, rA, hb⟩
      replace rA := hid rA
      go_wp2_with fail
      go_ret
      exact ⟨rfl, hb⟩
    · have j2 : decide (13 ≤ n) = false := decide_eq_false h2
      obtain ⟨k, rfl⟩ : ∃ k : Nat, n = k := ⟨n.toNat, by omega⟩
      have hk : k < 13 := by omega
      have e : signD k = sg.getD k [] := by unfold signD; rw [if_pos (by omega), Int.toNat_natCast]
      rw [e]
      have hs : (sg.map (fun l => Value.string (str l)))[k]? = some (.string (str (sg.getD k []))) := by
        rw [List.getElem?_map, List.getElem?_eq_getElem (show k < sg.length from hk), List.getD_eq_getElem?_getD, List.getElem?_eq_getElem (show k < sg.length from hk)]; rfl
      replace hs := hid hs
      generalize sg.getD k [] = s at hs ⊢
      clear e
      have i0 : (0 : Int) ≤ k := by omega
      have i1 : (k : Int) < 13 := by omega
      go_enter Tryd.func20, Tryd.ntmps20
      go_wp2_with fail
      refine K.out.mono ?_
      rintro e w2 ⟨A, rfl, rA, hb⟩
      obtain ⟨ad, rfl, C⟩ := rA k _ hs.out
      clear rA
      go_wp2_with fail
      go_ret
      exact ⟨rfl, hb⟩
theorem numD_from {s : List UInt8} {k : Nat} (hk : 1 ≤ k ∧ k < 13) (h : sg.getD k [] = s) (_hb : ∀ j, 1 ≤ j → j < k → sg.getD j [] ≠ s) : numD s = k := by
  have hall : ∀ k : Fin 13, 1 ≤ k.val → numD (sg.getD k.val []) = k.val := by decide +kernel
  rw [← h]; exact hall ⟨k, hk.2⟩ hk.1
theorem numD_none {s : List UInt8} (h : ∀ j, 1 ≤ j → j < 13 → sg.getD j [] ≠ s) : numD s = 0 := by
  unfold numD
  by_cases hs : s = []
  · subst hs; decide +kernel
  · have hx : fIx (fun a => decide (a = s)) sg = -1 := fIx_none (fun j hj => by
      by_cases h0 : j = 0
      · subst h0; exact decide_eq_false (fun e => hs e.symm)
      · have := h j (by omega) hj
        rw [List.getD_eq_getElem?_getD, List.getElem?_eq_getElem hj] at this
        exact decide_eq_false this)
    rw [hx]; rfl
set_option maxHeartbeats 1600000 in
theorem rnumber_any (w : World) (s : List UInt8) : Calls Tryd.prog 22 #[.string (str s)] w fun e w' => e = .returned (.int .i64 (numD s)) ∧ Below w.heap.size w w' := by
  have K := hid (rsigns_any w)
  obtain ⟨q, hq⟩ : ∃ q, numD s = q := ⟨_, rfl⟩
  rw [hq]
  replace hq := hid hq
  go_enter Tryd.func22, Tryd.ntmps22
  go_wp2_with fail
  refine K.out.mono ?_
  rintro e w2 ⟨A, rfl, rA, hb⟩
  clear K
  go_wp2_with fail
  go_loopw [4] (fun i W => ∃ k : Nat, (1 ≤ k ∧ k ≤ 13) ∧ i = .int .i64 k ∧ Hid (∀ j, 1 ≤ j → j < k → sg.getD j [] ≠ s) ∧ W = w2) (fun i _ => 13 - (RowKit.intOf i).toNat)
  case atStart => exact ⟨1, by omega, rfl, hid (fun j h1 h2 => by omega), rfl⟩
  case round =>
    obtain ⟨k, ⟨hk1, hk⟩, rfl, hall, rfl⟩ := hrel
    by_cases hlt : k < 13
    · have i0 : (0 : Int) ≤ k := by omega
      have i1 : (k : Int) < 13 := by omega
      have hs : (sg.map (fun l => Value.string (str l)))[k]? = some (.string (str (sg.getD k []))) := by
        rw [List.getElem?_map, List.getElem?_eq_getElem (show k < sg.length from hlt), List.getD_eq_getElem?_getD, List.getElem?_eq_getElem (show k < sg.length from hlt)]; rfl
      obtain ⟨ad, rfl, C⟩ := rA k _ hs
      have sb := str_beq (sg.getD k []) s
      have hyes := hid (show sg.getD k [] = s → q = k from fun e => by rw [← hq.out]; exact numD_from ⟨hk1, hlt⟩ e hall.out)
      have hno := hid (show sg.getD k [] ≠ s → ∀ j, 1 ≤ j → j < k + 1 → sg.getD j [] ≠ s from fun e j h1 h2 => by
        by_cases hjk : j = k
        · subst hjk; exact e
        · exact hall.out j h1 (by omega))
      clear hs
      generalize sg.getD k [] = t at C sb hyes hno
      by_cases hts : t = s
      · have e5 := hid (hyes.out hts)
        rw [decide_eq_true hts] at sb
        clear hts hno
        go_wp2_with fail
        go_ret
        exact ⟨by rw [e5.out]; rfl, hb⟩
      · have hn2 := hid (hno.out hts)
        rw [decide_eq_false hts] at sb
        clear hts hno
        go_wp2_with fail
        go_roundw
        case rel => exact ⟨k + 1, by omega, by go_num, hn2, (by first | rfl | trivial)⟩
        case measure => simp [RowKit.intOf]; omega
    · obtain rfl : k = 13 := by omega
      have e5 := hid (show q = 0 by rw [← hq.out]; exact numD_none (fun j h1 h2 => hall.out j h1 h2))
      go_wp2_with fail
      go_ret
      exact ⟨by rw [e5.out]; rfl, hb⟩
end Go.Proofs.YtnkocbdbfkhgmaaDoor
