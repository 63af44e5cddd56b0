import Derived.Test.YtbfjhclibbonjaaLogA
namespace Go.Proofs.Ytbfjhclibbonjaa
open Go.RowKit Go.Cov
theorem size_run {w : World} {o : Obj} : (w.alloc o).heap.size = w.heap.size + 1 := Array.size_push ..
def atL (s : Int) (L : EL) (n : Int) : Option Nat := if rightL s L = true ∧ s ≤ n ∧ n ≤ s + L.length then some (n - s).toNat else none
theorem atL_cases (s : Int) (L : EL) (n : Int) : atL s L n = none ∨ ∃ i : Nat, atL s L n = some i ∧ n = s + i ∧ i ≤ L.length ∧ rightL s L = true := by
  unfold atL
  by_cases h : rightL s L = true ∧ s ≤ n ∧ n ≤ s + L.length
  · rw [if_pos h]
    exact .inr ⟨_, rfl, by omega, by omega, h.1⟩
  · rw [if_neg h]; exact .inl rfl
set_option maxRecDepth 100000 in
set_option maxHeartbeats 1000000 in
theorem at_any {s : Int} {A : Option Addr} {c : Nat} {xs : List En} {L : EL} {w : World} (h : Lg w A c xs L) (n : Int) :
    Calls Try.prog 26 #[.agg #[.int .i64 s, .slice A xs.length c], .int .i64 n] w fun e w' => e = .returned (.tuple #[.int .i64 (((atL s L n).getD 0 : Nat) : Int), .bool (atL s L n).isSome]) ∧ Below w.heap.size w w' := by
  have hb := below_alloc w (.cells #[.int .i64 s, .slice A xs.length c] 26)
  have K := hid (logright_any (s := s) (h.below hb))
  have KE := hid (fun W (hW : Below (w.alloc (.cells #[.int .i64 s, .slice A xs.length c] 26)).heap.size (w.alloc (.cells #[.int .i64 s, .slice A xs.length c] 26)) W) => end_any (s := s) ((h.below hb).below hW))
  have S0 := box_cell w #[.int .i64 s, .slice A xs.length c] 26 0 _ rfl
  have S1 := box_cell w #[.int .i64 s, .slice A xs.length c] 26 1 _ rfl
  cases hr : rightL s L with
  | false =>
    have ha : atL s L n = none := by rw [atL, if_neg (by rw [hr]; simp)]
    rw [ha]
    rw [hr] at K
    clear hr ha
    go_enter Try.func26, Try.ntmps26
    go_wp2_with fail
    refine K.out.mono ?_
    rintro e w2 ⟨rfl, hb2⟩
    go_wp2_with fail
    go_ret2
    exact ⟨rfl, below_step hb hb2⟩
  | true =>
    rw [hr] at K
    obtain ⟨r1, r2, r3, _⟩ := rightL_iff.1 hr
    have he : endL s L = s + L.length := by rw [endL, if_pos hr]
    rw [he] at KE
    by_cases c1 : s ≤ n
    · have j1 : ¬ n < s := by omega
      by_cases c2 : n ≤ s + L.length
      · have ha : atL s L n = some (n - s).toNat := by rw [atL, if_pos ⟨hr, c1, c2⟩]
        have hn : (((n - s).toNat : Nat) : Int) = n - s := by omega
        have e1 : IntKind.i64.wrap (n - s) = (((n - s).toNat : Nat) : Int) := (wrap_of _ (by omega) (by omega)).trans hn.symm
        generalize (n - s).toNat = i at ha e1 hn
        have j2 : ¬ s + (L.length : Int) < n := by omega
        rw [ha]
        clear ha hr he hn c1 c2 r1 r2 r3
        go_enter Try.func26, Try.ntmps26
        go_wp2_with fail
        refine K.out.mono ?_
        rintro e w2 ⟨rfl, hb2⟩
        have S0 := cell_on hb2 S0
        have S1 := cell_on hb2 S1
        go_wp2_with fail
        refine (KE.out _ hb2).mono ?_
        rintro e w3 ⟨rfl, hb3⟩
        have S0 := cell_on hb3 S0
        have S1 := cell_on hb3 S1
        go_wp2_with fail
        go_ret2
        exact ⟨rfl, below_step (below_step hb hb2) hb3⟩
      · have ha : atL s L n = none := by rw [atL, if_neg (fun hh => c2 hh.2.2)]
        have j2 : s + (L.length : Int) < n := by omega
        rw [ha]
        clear ha hr he c2
        go_enter Try.func26, Try.ntmps26
        go_wp2_with fail
        refine K.out.mono ?_
        rintro e w2 ⟨rfl, hb2⟩
        have S0 := cell_on hb2 S0
        have S1 := cell_on hb2 S1
        go_wp2_with fail
        refine (KE.out _ hb2).mono ?_
        rintro e w3 ⟨rfl, hb3⟩
        go_wp2_with fail
        go_ret2
        exact ⟨rfl, below_step (below_step hb hb2) hb3⟩
    · have ha : atL s L n = none := by rw [atL, if_neg (fun hh => c1 hh.2.1)]
      have j1 : n < s := by omega
      rw [ha]
      clear ha hr he c1
      go_enter Try.func26, Try.ntmps26
      go_wp2_with fail
      refine K.out.mono ?_
      rintro e w2 ⟨rfl, hb2⟩
      have S0 := cell_on hb2 S0
      go_wp2_with fail
      go_ret2
      exact ⟨rfl, below_step hb hb2⟩
def atE (s : Int) (L : EL) (n : Int) : Option ED := match atL s L n with
  | some (i + 1) => L[i]?
  | _ => none
theorem atE_none {s n : Int} {L : EL} (h : atL s L n = none) : atE s L n = none := by rw [atE, h]
theorem atE_zero {s n : Int} {L : EL} (h : atL s L n = some 0) : atE s L n = none := by rw [atE, h]
theorem atE_some {s n : Int} {L : EL} {i : Nat} (h : atL s L n = some (i + 1)) : atE s L n = L[i]? := by rw [atE, h]
theorem sl_nil (w : World) : Sl w (.slice none 0 0) [] := ⟨none, 0, rfl, Nat.le_refl _, by simp [maxLen], by simpa using Rd.nil w none⟩
theorem lg_nil (w : World) : Lg w none 0 [] [] := ⟨Els.nil _ _ _, Nat.le_refl _, rfl⟩
set_option maxRecDepth 100000 in
set_option maxHeartbeats 1000000 in
theorem att_any {s : Int} {A : Option Addr} {c : Nat} {xs : List En} {L : EL} {w : World} (h : Lg w A c xs L) (n : Int) :
    Calls Try.prog 10 #[.agg #[.int .i64 s, .slice A xs.length c], .int .i64 n] w fun e w' => ∃ x : En, e = .returned (.tuple #[x.agg, .bool (atE s L n).isSome]) ∧ x.data = (atE s L n).getD (0, 0, []) ∧ Sl w' x.val x.op ∧ Below w.heap.size w w' := by
  have hb1 := below_alloc w (.cells #[.int .i64 s, .slice A xs.length c] 26)
  have hb2 := below_step hb1 (below_alloc (w.alloc (.cells #[.int .i64 s, .slice A xs.length c] 26)) (.cells #[.int .i64 0, .int .i64 0, .slice none 0 0] 32))
  have K := hid (at_any (s := s) (h.below hb2) n)
  have V := hid (Var3.new (w.alloc (.cells #[.int .i64 s, .slice A xs.length c] 26)) (.int .i64 0) (.int .i64 0) (.slice none 0 0) 32)
  have U0 := cell_up (Below.refl _ ((w.alloc (.cells #[.int .i64 s, .slice A xs.length c] 26)).alloc (.cells #[.int .i64 0, .int .i64 0, .slice none 0 0] 32))) (box_cell w #[.int .i64 s, .slice A xs.length c] 26 1 _ rfl)
  have hws : w.heap.size ≤ w.heap.size + 1 := by omega
  rcases atL_cases s L n with ha | ⟨i, ha, hn, hi, hr⟩
  · rw [atE_none ha]
    rw [ha] at K
    clear ha
    go_enter Try.func10, Try.ntmps10
    go_wp2_with fail
    refine K.out.mono ?_
    rintro e w2 ⟨rfl, hb3⟩
    obtain ⟨v0, v1, v2, f0, f1, f2, hz⟩ := V.out.on hb3
    rw [size_run] at v0 v1 v2 f0 f1 f2 hz
    obtain ⟨z0, z1, z2⟩ := set3_cells v0 v1 v2 (.int .i64 0) (.int .i64 0) (.slice none 0 0)
    go_wp2_with fail
    refine bodyPost_ret (v := .tuple #[.agg #[.int .i64 0, .int .i64 0, .slice none 0 0], .bool false]) (by simp [results, Try.results10, go_sem, z0, z1, z2]) rfl ?_
    exact ⟨⟨0, 0, none, 0, []⟩, rfl, rfl, sl_nil _, (((below_step hb2 hb3).setCell (p := ⟨w.heap.size + 1, 0, none⟩) hws _).setCell (p := ⟨w.heap.size + 1, 1, none⟩) hws _).setCell (p := ⟨w.heap.size + 1, 2, none⟩) hws _⟩
  · cases i with
    | zero =>
      rw [atE_zero ha]
      rw [ha] at K
      clear ha hr hn
      go_enter Try.func10, Try.ntmps10
      go_wp2_with fail
      refine K.out.mono ?_
      rintro e w2 ⟨rfl, hb3⟩
      obtain ⟨v0, v1, v2, f0, f1, f2, hz⟩ := V.out.on hb3
      rw [size_run] at v0 v1 v2 f0 f1 f2 hz
      obtain ⟨z0, z1, z2⟩ := set3_cells v0 v1 v2 (.int .i64 0) (.int .i64 0) (.slice none 0 0)
      go_wp2_with fail
      refine bodyPost_ret (v := .tuple #[.agg #[.int .i64 0, .int .i64 0, .slice none 0 0], .bool false]) (by simp [results, Try.results10, go_sem, z0, z1, z2]) rfl ?_
      exact ⟨⟨0, 0, none, 0, []⟩, rfl, rfl, sl_nil _, (((below_step hb2 hb3).setCell (p := ⟨w.heap.size + 1, 0, none⟩) hws _).setCell (p := ⟨w.heap.size + 1, 1, none⟩) hws _).setCell (p := ⟨w.heap.size + 1, 2, none⟩) hws _⟩
    | succ i =>
      have HL := hid h.len
      have hlt : i < xs.length := by have := HL.out; omega
      have hx : L[i]? = some xs[i].data := by
        rw [List.getElem?_eq_getElem (by omega), en_data_at h.2.2 i hlt (by omega)]
      rw [atE_some ha, hx]
      rw [ha] at K
      obtain ⟨_, r2, _⟩ := rightL_iff.1 hr
      have hsl := h.1.2 xs[i] (List.getElem_mem hlt) (xs[i].val, xs[i].op) (by simp [enEl])
      have HH := hid (fun W (hW : Below w.heap.size w W) => en_at (h.below hW).1 i hlt)
      generalize xs[i] = x at hsl HH
      have e1 : IntKind.i64.wrap (i : Int) = (i : Int) := wrap_of _ (by omega) (by omega)
      have e2 : ((i : Int) + 1 == 0) = false := by simp; omega
      have i1 : (i : Int) < xs.length := by omega
      rw [show ((((some (i + 1)).getD 0 : Nat)) : Int) = (i : Int) + 1 from by simp] at K
      clear ha hr hn hx hi r2
      go_enter Try.func10, Try.ntmps10
      go_wp2_with fail
      refine K.out.mono ?_
      rintro e w2 ⟨rfl, hb3⟩
      have U0 := cell_on hb3 U0
      obtain ⟨v0, v1, v2, f0, f1, f2, hz⟩ := V.out.on hb3
      rw [size_run] at v0 v1 v2 f0 f1 f2 hz
      have bb := below_step hb2 hb3
      obtain ⟨ad, rfl, h1, h2, h3, _⟩ := HH.out w2 bb
      obtain ⟨z0, z1, z2⟩ := set3_cells v0 v1 v2 (.int .i64 x.c) (.int .i64 x.r) (.slice x.A x.op.length x.cap)
      go_wp2_with fail
      refine bodyPost_ret (v := .tuple #[x.agg, .bool true]) (by simp [results, Try.results10, go_sem, z0, z1, z2, En.agg]) rfl ?_
      have bf := ((bb.setCell (p := ⟨w.heap.size + 1, 0, none⟩) hws (.int .i64 x.c)).setCell (p := ⟨w.heap.size + 1, 1, none⟩) hws (.int .i64 x.r)).setCell (p := ⟨w.heap.size + 1, 2, none⟩) hws (.slice x.A x.op.length x.cap)
      exact ⟨x, rfl, rfl, hsl.keep (fun p u hp => cell_on bf hp), bf⟩
end Go.Proofs.Ytbfjhclibbonjaa
