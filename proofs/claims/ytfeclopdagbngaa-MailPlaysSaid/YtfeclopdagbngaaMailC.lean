import Derived.Test.YtfeclopdagbngaaMailB
namespace Go.Proofs.Ytfeclopdagbngaa
open Go.RowKit Go.Conc Go.Cov

theorem bytes9 : ∃ i, Try.prog.info? 9 = some i ∧ i.bytes = 16 := by
  have h : (Try.prog.info? 9).map (·.bytes) = some 16 := by kernel_rfl
  obtain ⟨i, hi, hb⟩ := Option.map_eq_some_iff.1 h
  exact ⟨i, hi, hb⟩
theorem mkc (n : Nat) (h : n ≤ 1024) (w : World) : (Instr.makeChan 52 (.int .i64 n)).run Try.prog w = .ok (.chan (some w.heap.size)) (w.alloc (.chan n #[] false 0 0 false)) := by
  obtain ⟨i, hi, hb⟩ := bytes9
  exact run_makeChan (P := Try.prog) (w := w) Try.underlying52 hi .i64 n (by omega) (by rw [hb]; omega)
theorem new_ok (m : Int) (h1 : 1 ≤ m) (h2 : m ≤ 1024) (w : World) : Calls Try.prog 7 #[.int .i64 m] w fun e w' => e = .returned (.pointer (some ⟨w.heap.size + 1, 0, none⟩)) ∧
    Box w' (w.heap.size + 1) w.heap.size m.toNat 54 [] ∧ Below w.heap.size w w' := by
  obtain ⟨n, rfl⟩ := Int.eq_ofNat_of_zero_le (show 0 ≤ m by omega)
  have hm := mkc n (by omega)
  go_enter Try.func7, Try.ntmps7
  go_wp2
  go_ret
  refine ⟨rfl, ⟨?_, 0, 0, ?_⟩, ((Below.refl _ _).alloc (Nat.le_refl _) _).alloc (by simp) _⟩
  · have := heap_alloc_new (w.alloc (.chan n #[] false 0 0 false)) (.cells #[.chan (some w.heap.size)] 54)
    simpa using this
  · rw [Below.heap_alloc (w.alloc (.chan n #[] false 0 0 false)) _ _ (by simp)]
    simpa using heap_alloc_new w (.chan n #[] false 0 0 false)
theorem newint_no (w : World) : Calls Try.prog 22 #[.int .i64 0] w fun e w' => e = .returned (.pointer none) ∧ w = w' := by
  go_enter Try.func22, Try.ntmps22
  go_wp2
  go_ret
  exact ⟨rfl, rfl⟩
set_option maxHeartbeats 400000 in
theorem head_any (w : World) : Calls Try.prog 6 #[] w fun e w' => e = .returned (.bool true) ∧ Below w.heap.size w w' := by
  go_enter Try.func6, Try.ntmps6
  go_wp2_with fail
  refine (new_ok 1 (by omega) (by omega) _).mono ?_
  rintro e w1 ⟨rfl, hb1, hg1⟩
  go_wp2_with fail
  refine (newint_no _).mono ?_
  rintro e w2 ⟨rfl, rfl⟩
  go_wp2_with fail
  refine (put_yes hb1 (.string ⟨#[97]⟩) (by simp)).mono ?_
  rintro e w3 ⟨rfl, hb3, hg3⟩
  go_wp2_with fail
  refine (put_no hb3 (.string ⟨#[98]⟩) (by simp)).mono ?_
  rintro e w4 ⟨rfl, rfl⟩
  go_wp2_with fail
  refine (take_yes hb3).mono ?_
  rintro e w5 ⟨rfl, hb5, hg5⟩
  go_wp2_with fail
  refine (take_no hb5).mono ?_
  rintro e w6 ⟨rfl, rfl⟩
  go_wp2_with fail
  go_ret
  refine ⟨rfl, ?_⟩
  exact (hg1.grown hg3 hg1.size (by simp)).grown hg5 (by have := hg1.size; have := hg3.size; omega) (by simp)
theorem len_any {w : World} {b c cap : Nat} {l : List Value} (h : Box w b c cap 54 l) : Calls Try.prog 21 #[.pointer (some ⟨b, 0, none⟩)] w fun e w' => e = .returned (.int .i64 l.length) ∧ w = w' := by
  have hc := h.cell
  obtain ⟨h1, s, r, h2⟩ := h
  have hlen : (Builtin.len_ #[52] 3 #[.chan (some c)]).run Try.prog w = .ok (.int .i64 l.length) w := by
    simp [Builtin.len_, run_underlying Try.underlying52, getObj, h2, goInt, Sem.run]
  go_enter Try.func21, Try.ntmps21
  go_wp2

  go_ret
  exact ⟨rfl, rfl⟩
end Go.Proofs.Ytfeclopdagbngaa
