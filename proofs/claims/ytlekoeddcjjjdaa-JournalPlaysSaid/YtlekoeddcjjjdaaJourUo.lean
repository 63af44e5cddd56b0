import Derived.Test.YtlekoeddcjjjdaaJourUn
/-! the ref's journal: Undo -/
namespace Go.Proofs.Ytlekoeddcjjjdaa
open Go.RowKit Go.Cov Go.Lib
variable {Bk : Nat → Prop}
set_option maxRecDepth 100000 in
set_option maxHeartbeats 1600000 in
theorem rjundo_ok {w : World} {base db : Nat} {hist : List PL} {L : PL} (h : RJ Bk w base db (hist ++ [L])) (hB : ∀ k, w.heap.size ≤ k → Bk k) (hn : hist.length ≤ 100000) (k : Nat) (hk : k ≤ hist.length) :
    Calls Try.prog 17 #[.pointer (some ⟨db, 0, none⟩), .int .i64 k] w fun e w' => e = .returned (.int .i64 0) ∧ RJ Bk w' base db ((hist ++ [L]).take (k + 1)) ∧ Below base w w' ∧ Moves w w' db := by
  have KM := hid (rjmark_any h (by simp) (by simp; omega))
  rw [show (hist ++ [L]).length - 1 = hist.length by simp] at KM
  obtain ⟨dv, ss, ⟨c0, f0⟩, h5, h6, h7⟩ := h
  have hl : ss.length = (hist ++ [L]).length := by have := h6.1; simpa using this
  have hbw : base ≤ w.heap.size := by have := h5.1; have := h5.2.1; omega
  have hdb := h5.2.1
  obtain ⟨U, qv, hdv, hq1, hq2, _⟩ := own_shape h6
  subst hdv
  have hlen : (hist ++ [L]).length = hist.length + 1 := by simp
  have HRD := hid (own_rd h6)
  have H5 := hid h5
  have H7 := hid h7
  have HB := hid hB
  have HL := hid hl
  have HLEN := hid hlen
  have hkl : k + 1 ≤ (hist ++ [L]).length := by omega
  have hnl : (hist ++ [L]).length ≤ 100001 := by omega
  clear h5 h6 h7 hB hl hlen
  have i0 : ¬ ((k : Int) < 0) := by omega
  have i1 : ¬ ((hist.length : Int) < (k : Int)) := by omega
  obtain ⟨n, hnn⟩ : ∃ n, n = (hist ++ [L]).length := ⟨_, rfl⟩
  rw [← hnn] at c0 hkl hnl hq1
  have e1 : IntKind.i64.wrap ((k : Int) + 1) = (k : Int) + 1 := wrap_of _ (by omega) (by omega)
  have sl := fun W => run_slice_to (P := Try.prog) Try.underlying55 infoPP U n qv (k + 1) .i64 ((k : Int) + 1) (by omega) (by omega) W
  have HN := hid hnn
  clear hnn hq2
  have ba := below_alloc w (.cells #[] 22)
  have own0 := own_mono (made1P w 22) hbw
  have hrd : Rd (w.alloc (.cells #[] 22)) U ((ss.take (k + 1)).map SlP.val) := by
    rw [List.map_take]
    exact Rd.below (fun j u hj => HRD.out j u (by rw [List.getElem?_take] at hj; split at hj; exact hj; cases hj)) ba
  have c1 := cell_on ba c0
  have f1 := froz_on ba hdb f0
  have HT := hid (show ((ss.take (k + 1)).map SlP.val).length = (k + 1) * 1 by rw [List.length_map, List.length_take, HL.out, ← HN.out]; omega)
  have HO := hid (show ∀ u ∈ (ss.take (k + 1)).map SlP.val, u.oneCell' = true from fun u hu => by obtain ⟨s, _, rfl⟩ := List.mem_map.1 hu; rfl)
  go_enter Try.func17, Try.ntmps17
  go_wp2_with fail
  refine KM.out.mono ?_
  rintro e w2 ⟨rfl, rfl⟩
  go_wp2_with (at_builtin; refine wpList_app rfl (.tmp 14) (.tmp 21) 55 rfl base 22 Try.underlying55 infoPP rfl (by decide) _ 0 [] rfl own0 U (k + 1) qv ((ss.take (k + 1)).map SlP.val) rfl HT.out hrd HO.out (by omega) (by omega) (Nat.le_trans hbw ba.size) ?_; intro v7 w7 hin7 hg7 hat7; have b7 := ba.grown hg7 ba.size (fun k hk => by have := Option.some.inj hk; dsimp only at this; omega); have c7 := cell_on b7 c0; have f7 := froz_on b7 hdb f0; obtain ⟨C7, q7, hv7, _⟩ := own_shape hin7; subst hv7)
  go_ret
  simp only [Nat.zero_add, List.nil_append] at hin7
  try simp only [Nat.zero_add] at hat7
  have hlt : ((hist ++ [L]).take (k + 1)).length = k + 1 := by rw [List.length_take]; have := HN.out; omega
  obtain rfl := HN.out
  have R := rj_cut (Bk := Bk) (Ls := hist ++ [L]) (ss := ss) (Ls' := (hist ++ [L]).take (k + 1)) (ss' := ss.take (k + 1)) HB.out c0 f0 H5.out H7.out b7 (v7 := .slice C7 (k + 1) q7) (fun kk e => by
    rcases hat7 with e2 | e2
    · rw [e2] at e; have := Option.some.inj e; dsimp only at this; omega
    · rw [e2] at e; have := Option.some.inj e; have := ba.size; omega) (by rw [hlt]; exact hin7) (fun i L hi => by
    rw [List.getElem?_take] at hi
    split at hi
    · rename_i hik; exact ⟨hi, by rw [List.getElem?_take, if_pos hik]⟩
    · cases hi)
  exact ⟨rfl, R.1, (b7.mono hbw).setCell (p := ⟨db, 0, none⟩) H5.out.1 _, R.2⟩
end Go.Proofs.Ytlekoeddcjjjdaa
