import Derived.Test.YtgkdnhbhmebmeaaDoorLogA
namespace Go.Proofs.YtgkdnhbhmebmeaaDoor
open Go.RowKit Go.Cov
theorem size_run {w : World} {o : Obj} : (w.alloc o).heap.size = w.heap.size + 1 := Array.size_push ..
def atL (s : Int) (L : EL) (n : Int) : Option Nat := if rightL s L = true ∧ s ≤ n ∧ n ≤ s + L.length then some (n - s).toNat else none
theorem atL_cases (s : Int) (L : EL) (n : Int) : atL s L n = none ∨ ∃ i : Nat, atL s L n = some i ∧ n = s + i ∧ i ≤ L.length ∧ rightL s L = true := by
  unfold atL
  by_cases h : rightL s L = true ∧ s ≤ n ∧ n ≤ s + L.length
  · rw [if_pos h]
    exact .inr ⟨_, rfl, by omega, by omega, h.1⟩
  · rw [if_neg h]; exact .inl rfl
set_option maxRecDepth 100000 in
set_option maxHeartbeats 1000000 in
theorem at_any {s : Int} {A : Option Addr} {c : Nat} {xs : List En} {L : EL} {w : World} (h : Lg w A c xs L) (n : Int) :
    Calls Tryd.prog 60 #[.agg #[.int .i64 s, .slice A xs.length c], .int .i64 n] w fun e w' => e = .returned (.tuple #[.int .i64 (((atL s L n).getD 0 : Nat) : Int), .bool (atL s L n).isSome]) ∧ Below w.heap.size w w' := by
  have hb := below_alloc w (.cells #[.int .i64 s, .slice A xs.length c] 26)
  have K := hid (logright_any (s := s) (h.below hb))
  have KE := hid (fun W (hW : Below (w.alloc (.cells #[.int .i64 s, .slice A xs.length c] 26)).heap.size (w.alloc (.cells #[.int .i64 s, .slice A xs.length c] 26)) W) => end_any (s := s) ((h.below hb).below hW))
  have S0 := box_cell w #[.int .i64 s, .slice A xs.length c] 26 0 _ rfl
  have S1 := box_cell w #[.int .i64 s, .slice A xs.length c] 26 1 _ rfl
  cases hr : rightL s L with
  | false =>
    have ha : atL s L n = none := by rw [atL, if_neg (by rw [hr]; simp)]
    rw [ha]
    rw [hr] at K
    clear hr ha
    go_enter Tryd.func60, Tryd.ntmps60
    go_wp2_with fail
    refine K.out.mono ?_
    rintro e w2 ⟨rfl, hb2⟩
    go_wp2_with fail
    go_ret2
    exact ⟨rfl, below_step hb hb2⟩
  | true =>
    rw [hr] at K
    obtain ⟨r1, r2, r3, _⟩ := rightL_iff.1 hr
    have he : endL s L = s + L.length := by rw [endL, if_pos hr]
    rw [he] at KE
    by_cases c1 : s ≤ n
    · have j1 : ¬ n < s := by omega
      by_cases c2 : n ≤ s + L.length
      · have ha : atL s L n = some (n - s).toNat := by rw [atL, if_pos ⟨hr, c1, c2⟩]
        have hn : (((n - s).toNat : Nat) : Int) = n - s := by omega
        have e1 : IntKind.i64.wrap (n - s) = (((n - s).toNat : Nat) : Int) := (wrap_of _ (by omega) (by omega)).trans hn.symm
        generalize (n - s).toNat = i at ha e1 hn
        have j2 : ¬ s + (L.length : Int) < n := by omega
        rw [ha]
        clear ha hr he hn c1 c2 r1 r2 r3
        go_enter Tryd.func60, Tryd.ntmps60
        go_wp2_with fail
        refine K.out.mono ?_
        rintro e w2 ⟨rfl, hb2⟩
        have S0 := cell_on hb2 S0
        have S1 := cell_on hb2 S1
        go_wp2_with fail
        refine (KE.out _ hb2).mono ?_
        rintro e w3 ⟨rfl, hb3⟩
        have S0 := cell_on hb3 S0
        have S1 := cell_on hb3 S1
        go_wp2_with fail
        go_ret2
        exact ⟨rfl, below_step (below_step hb hb2) hb3⟩
      · have ha : atL s L n = none := by rw [atL, if_neg (fun hh => c2 hh.2.2)]
        have j2 : s + (L.length : Int) < n := by omega
        rw [ha]
        clear ha hr he c2
        go_enter Tryd.func60, Tryd.ntmps60
        go_wp2_with fail
        refine K.out.mono ?_
        rintro e w2 ⟨rfl, hb2⟩
        have S0 := cell_on hb2 S0
        have S1 := cell_on hb2 S1
        go_wp2_with fail
        refine (KE.out _ hb2).mono ?_
        rintro e w3 ⟨rfl, hb3⟩
        go_wp2_with fail
        go_ret2
        exact ⟨rfl, below_step (below_step hb hb2) hb3⟩
    · have ha : atL s L n = none := by rw [atL, if_neg (fun hh => c1 hh.2.1)]
      have j1 : n < s := by omega
      rw [ha]
      clear ha hr he c1
      go_enter Tryd.func60, Tryd.ntmps60
      go_wp2_with fail
      refine K.out.mono ?_
      rintro e w2 ⟨rfl, hb2⟩
      have S0 := cell_on hb2 S0
      go_wp2_with fail
      go_ret2
      exact ⟨rfl, below_step hb hb2⟩
def atE (s : Int) (L : EL) (n : Int) : Option ED := match atL s L n with
  | some (i + 1) => L[i]?
  | _ => none
theorem atE_none {s n : Int} {L : EL} (h : atL s L n = none) : atE s L n = none := by rw [atE, h]
theorem atE_zero {s n : Int} {L : EL} (h : atL s L n = some 0) : atE s L n = none := by rw [atE, h]
theorem atE_some {s n : Int} {L : EL} {i : Nat} (h : atL s L n = some (i + 1)) : atE s L n = L[i]? := by rw [atE, h]
theorem sl_nil (w : World) : Sl w (.slice none 0 0) [] := ⟨none, 0, rfl, Nat.le_refl _, by simp [maxLen], by simpa using Rd.nil w none⟩
theorem lg_nil (w : World) : Lg w none 0 [] [] := ⟨Els.nil _ _ _, Nat.le_refl _, rfl⟩
end Go.Proofs.YtgkdnhbhmebmeaaDoor
