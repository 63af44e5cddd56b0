import Derived.Test.YtnkocbdbfkhgmaaDoorCodeL
/-! code: signs -/
namespace Go.Proofs.YtnkocbdbfkhgmaaDoor
open Go.RowKit Go.Cov
/-- the signs -/
def sg : List (List UInt8) := [[], [43], [45], [42], [47], [37], [60], [60, 61], [62], [62, 61], [61, 61], [33, 61], [33]]
/-- the table's cells -/
def STab (w : World) : Prop := ∀ k, k < 13 → w.cell? ⟨0, k, none⟩ = some (.string (str (sg.getD k [])))
theorem STab.below {w w' : World} (h : STab w) (hb : Below w.heap.size w w') : STab w' := fun k hk => cell_on hb (h k hk)
def signD (n : Int) : List UInt8 := if 0 ≤ n ∧ n < 13 then sg.getD n.toNat [] else []
def numD (s : List UInt8) : Int := if 0 < fIx (fun a => decide (a = s)) sg then fIx (fun a => decide (a = s)) sg else 0
set_option maxHeartbeats 1600000 in
theorem sign_any {w : World} (ht : STab w) (n : Int) : Calls Tryd.prog 19 #[.int .i64 n] w fun e w' => e = .returned (.string (str (signD n))) ∧ w = w' := by
  by_cases h1 : n < 0
  · have e : signD n = [] := by unfold signD; rw [if_neg (by omega)]
    have j1 : decide (n < 0) = true := decide_eq_true h1
    rw [e]
    replace ht := hid ht
    clear e h1
    go_enter Tryd.func19, Tryd.ntmps19
    go_wp2_with fail
    go_ret
    exact ⟨rfl, rfl⟩
  · have j1 : decide (n < 0) = false := decide_eq_false h1
    by_cases h2 : 13 ≤ n
    · have e : signD n = [] := by unfold signD; rw [if_neg (by omega)]
      have j2 : decide (13 ≤ n) = true := decide_eq_true h2
      rw [e]
      replace ht := hid ht
      clear e h1 h2
      go_enter Tryd.func19, Tryd.ntmps19
      go_wp2_with fail
      go_ret
      exact ⟨rfl, rfl⟩
    · have j2 : decide (13 ≤ n) = false := decide_eq_false h2
      obtain ⟨k, rfl⟩ : ∃ k : Nat, n = k := ⟨n.toNat, by omega⟩
      have hk : k < 13 := by omega
      have e : signD k = sg.getD k [] := by unfold signD; rw [if_pos (by omega), Int.toNat_natCast]
      have C := ht k hk
      rw [e]
      replace ht := hid ht
      generalize sg.getD k [] = s at C ⊢
      clear e
      have i0 : (0 : Int) ≤ k := by omega
      have i1 : (k : Int) < 13 := by omega
      go_enter Tryd.func19, Tryd.ntmps19
      go_wp2_with fail
      go_ret
      exact ⟨rfl, rfl⟩
set_option maxHeartbeats 1600000 in
theorem sidx_any {w : World} {A : Option Addr} {c : Nat} {xs : List (List UInt8)} (n : Nat) (hn : xs.length = n) (h : Rd w A (xs.map (fun l => Value.string (str l)))) (hm : n ≤ 1000) (s : List UInt8) :
    Calls Tryd.prog 47 #[.slice A n c, .string (str s)] w fun e w' => e = .returned (.int .i64 (fIx (fun a => decide (a = s)) xs)) ∧ w = w' := by
  replace hn := hid hn
  go_enter Tryd.func47, Tryd.ntmps47
  go_wp2_with fail
  go_loopw [5, 8] (fun _ i W => ∃ k : Nat, k ≤ n ∧ i = .int .i64 k ∧ (∀ j, (hj : j < xs.length) → j < k → decide (xs[j] = s) = false) ∧ W = w) (fun _ i _ => n - (RowKit.intOf i).toNat)
  case atStart => exact ⟨0, by omega, rfl, fun j _ hj => by omega, rfl⟩
  case round =>
    obtain ⟨k, hk, rfl, hall, rfl⟩ := hrel
    by_cases hlt : k < n
    · have i1 : (k : Int) < n := by omega
      have hkl : k < xs.length := by have := hn.out; omega
      obtain ⟨ad, rfl, x0⟩ := h k (.string (str xs[k])) (by simp [hkl])
      have HX := hid (show ∀ q : Bool, decide (xs[k] = s) = q → (q = true → fIx (fun a => decide (a = s)) xs = k) ∧ (q = false → ∀ j, (hj : j < xs.length) → j < k + 1 → decide (xs[j] = s) = false) from fun q hq => ⟨fun hqt => fIx_some (p := fun a => decide (a = s)) hkl (by rw [hqt] at hq; exact hq) hall, fun hqf j hj hjk => by
        by_cases hjj : j = k
        · subst hjj; rw [hqf] at hq; exact hq
        · exact hall j hj (by omega)⟩)
      clear hall
      have sb := str_beq s xs[k]
      generalize xs[k] = x at x0 HX sb
      obtain ⟨q, hq⟩ : ∃ q, decide (x = s) = q := ⟨_, rfl⟩
      have hq2 : decide (s = x) = q := by rw [← hq]; exact decide_eq_decide.2 eq_comm
      rw [hq2] at sb
      have HY := hid (HX.out q hq)
      clear HX hq hq2
      have i0 : (0 : Int) ≤ k := by omega
      cases q
      case false =>
        go_wp2_with fail
        go_roundw
        case rel => exact ⟨k + 1, by omega, by go_num, HY.out.2 (by first | rfl | trivial), (by first | rfl | trivial)⟩
        case measure => simp [RowKit.intOf]; omega
      case true =>
        have e5 := hid (HY.out.1 (by first | rfl | trivial))
        go_wp2_with fail
        go_ret
        exact ⟨by rw [e5.out]; rfl, rfl⟩
    · obtain rfl : k = n := by omega
      go_wp2_with fail
      go_ret
      exact ⟨by rw [fIx_none (fun j hj => hall j hj (by have := hn.out; omega))]; rfl, rfl⟩
theorem stab_rd {w : World} (ht : STab w) : Rd w (some ⟨0, 0, none⟩) (sg.map (fun l => Value.string (str l))) := fun j u hj => by
  refine ⟨_, rfl, ?_⟩
  rw [add_none, Nat.zero_add]
  rw [List.getElem?_map] at hj
  obtain ⟨a, ha, rfl⟩ := Option.map_eq_some_iff.1 hj
  have hl : j < 13 := (List.getElem?_eq_some_iff.1 ha).1
  rw [ht j hl, List.getD_eq_getElem?_getD, ha]; rfl
set_option maxHeartbeats 1600000 in
theorem number_any {w : World} (ht : STab w) (s : List UInt8) : Calls Tryd.prog 21 #[.string (str s)] w fun e w' => e = .returned (.int .i64 (numD s)) ∧ w = w' := by
  have K := sidx_any (c := 13) 13 rfl (stab_rd ht) (by omega) s
  unfold numD
  generalize fIx (fun a => decide (a = s)) sg = z at K ⊢
  obtain ⟨y, hy⟩ : ∃ y, (if 0 < z then z else 0) = y := ⟨_, rfl⟩
  rw [hy]
  have j1 : (if z < 0 then (0 : Int) else z) = y := by rw [← hy]; split <;> split <;> omega
  have j3 : (if z ≤ 0 then (0 : Int) else z) = y := by rw [← hy]; split <;> split <;> omega
  have j4 : (if 0 ≤ z then z else (0 : Int)) = y := by rw [← hy]; split <;> split <;> omega
  replace K := hid K
  replace ht := hid ht
  go_enter Tryd.func21, Tryd.ntmps21
  go_wp2_with fail
  refine K.out.mono ?_
  rintro e w2 ⟨rfl, rfl⟩
  go_wp2_with fail
  go_ret
  exact ⟨rfl, rfl⟩
end Go.Proofs.YtnkocbdbfkhgmaaDoor
