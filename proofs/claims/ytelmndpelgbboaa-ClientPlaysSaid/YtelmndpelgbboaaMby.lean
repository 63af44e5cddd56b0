import Derived.Test.YtelmndpelgbboaaMbx
namespace Go.Proofs.Ytelmndpelgbboaa
open Go.RowKit Go.Conc Go.Cov
/-- an answer: its request's number, and the reply -/
structure An where
  n : Int
  V : Option Addr
  c : Nat
  l : List UInt8
deriving Inhabited
def An.agg (a : An) : Value := .agg #[.int .i64 a.n, .slice a.V a.l.length a.c]
abbrev BoxA (w : World) (b c cap : Nat) (l : List An) : Prop := Box w b c cap 76 (l.map An.agg)
theorem put_yes {w : World} {b c cap : Nat} {l : List An} (h : BoxA w b c cap l) (x : An) (hroom : l.length < cap) :
    Calls Try.prog 23 #[.pointer (some ⟨b, 0, none⟩), x.agg] w fun e w' => e = .returned (.bool true) ∧ BoxA w' b c cap (l ++ [x]) ∧ w.grownBy w' (some c) := by
  have hbox := h
  have ba := below_alloc w (.cells #[.int .i64 x.n, .slice x.V x.l.length x.c] 59)
  have hb1 := hbox.below ba
  obtain ⟨h1, s, r, h2⟩ := h
  refine (put_room b x.n x.V x.l.length x.c w c cap s r _ hbox.cell h2 (by simpa using hroom)).mono fun e w' ⟨he, hw⟩ => ⟨he, ?_, ?_⟩
  · rw [← hw, List.push_toArray]
    have := hb1.set (l.map An.agg ++ [x.agg]) (s + 1) r
    show Box _ _ _ _ _ ((l ++ [x]).map An.agg)
    rw [List.map_append]
    exact this
  · rw [← hw]; exact grown_after (grown_of_below ba _) (setChan_grown _ _ _ _ _ _ _ _) (fun _ _ => .inr rfl)
theorem put_no {w : World} {b c cap : Nat} {l : List An} (h : BoxA w b c cap l) (x : An) (hfull : cap ≤ l.length) :
    Calls Try.prog 23 #[.pointer (some ⟨b, 0, none⟩), x.agg] w fun e w' => e = .returned (.bool false) ∧ Below w.heap.size w w' := by
  have hbox := h
  obtain ⟨h1, s, r, h2⟩ := h
  exact (put_full b x.n x.V x.l.length x.c w c cap s r _ hbox.cell h2 (by simpa using hfull)).mono fun e w' ⟨he, hw⟩ => ⟨he, by rw [← hw]; exact below_alloc _ _⟩
theorem take_yes {w : World} {b c cap : Nat} {x : An} {l : List An} (h : BoxA w b c cap (x :: l)) :
    Calls Try.prog 31 #[.pointer (some ⟨b, 0, none⟩)] w fun e w' => e = .returned (.tuple #[x.agg, .bool true]) ∧ BoxA w' b c cap l ∧ w.grownBy w' (some c) := by
  have hbox := h
  obtain ⟨h1, s, r, h2⟩ := h
  refine (take_some b x.n x.V x.l.length x.c _ w c cap s r hbox.cell h2 (by simp) (by simp [An.agg])).mono fun e w' ⟨he, s', r', hc, hg⟩ => ⟨he, ⟨?_, s', r', ?_⟩, hg⟩
  · rw [hg.block b hbox.lt.1 (by intro hh; exact hbox.ne (by injection hh))]; exact h1
  · rw [hc]; simp [List.take_of_length_le]
theorem take_no {w : World} {b c cap : Nat} (h : BoxA w b c cap []) :
    Calls Try.prog 31 #[.pointer (some ⟨b, 0, none⟩)] w fun e w' => e = .returned (.tuple #[.agg #[.int .i64 0, .slice none 0 0], .bool false]) ∧ BoxA w' b c cap [] ∧ w.grownBy w' (some c) := by
  have hbox := h
  obtain ⟨h1, s, r, h2⟩ := h
  refine (take_none b w c cap s r hbox.cell h2).mono fun e w' ⟨he, s', r', hc, hg⟩ => ⟨he, ⟨?_, s', r', hc⟩, hg⟩
  rw [hg.block b hbox.lt.1 (by intro hh; exact hbox.ne (by injection hh))]; exact h1
theorem bytesAns : ∃ i, Try.prog.info? 59 = some i ∧ i.bytes = 32 := by
  have h : (Try.prog.info? 59).map (·.bytes) = some 32 := by kernel_rfl
  obtain ⟨i, hi, hb⟩ := Option.map_eq_some_iff.1 h
  exact ⟨i, hi, hb⟩
theorem mkc (n : Nat) (h : n ≤ 1024) (w : World) : (Instr.makeChan 74 (.int .i64 n)).run Try.prog w = .ok (.chan (some w.heap.size)) (w.alloc (.chan n #[] false 0 0 false)) := by
  obtain ⟨i, hi, hb⟩ := bytesAns
  exact run_makeChan (P := Try.prog) (w := w) Try.underlying74 hi .i64 n (by omega) (by rw [hb]; omega)
theorem new_ok (m : Int) (h1 : 1 ≤ m) (h2 : m ≤ 1024) (w : World) : Calls Try.prog 22 #[.int .i64 m] w fun e w' => e = .returned (.pointer (some ⟨w.heap.size + 1, 0, none⟩)) ∧
    Box w' (w.heap.size + 1) w.heap.size m.toNat 76 [] ∧ Below w.heap.size w w' := by
  obtain ⟨n, rfl⟩ := Int.eq_ofNat_of_zero_le (show 0 ≤ m by omega)
  have hm := mkc n (by omega)
  go_enter Try.func22, Try.ntmps22
  go_wp2
  go_ret
  refine ⟨rfl, ⟨?_, 0, 0, ?_⟩, ((Below.refl _ _).alloc (Nat.le_refl _) _).alloc (by simp) _⟩
  · have := heap_alloc_new (w.alloc (.chan n #[] false 0 0 false)) (.cells #[.chan (some w.heap.size)] 76)
    simpa using this
  · rw [Below.heap_alloc (w.alloc (.chan n #[] false 0 0 false)) _ _ (by simp)]
    simpa using heap_alloc_new w (.chan n #[] false 0 0 false)
theorem new_no (m : Int) (h : m < 1 ∨ 1024 < m) (w : World) : Calls Try.prog 22 #[.int .i64 m] w fun e w' => e = .returned (.pointer none) ∧ w' = w := by
  have H := hid (show m < 1 ∨ ¬ m < 1 ∧ 1024 < m by omega)
  clear h
  rcases H.out with j | ⟨j, k⟩
  all_goals
    go_enter Try.func22, Try.ntmps22
    go_wp2
    go_ret
    exact ⟨rfl, rfl⟩
theorem len_any {w : World} {b c cap : Nat} {l : List Value} (h : Box w b c cap 76 l) : Calls Try.prog 25 #[.pointer (some ⟨b, 0, none⟩)] w fun e w' => e = .returned (.int .i64 l.length) ∧ w = w' := by
  have hc := h.cell
  obtain ⟨h1, s, r, h2⟩ := h
  have hlen : (Builtin.len_ #[74] 3 #[.chan (some c)]).run Try.prog w = .ok (.int .i64 l.length) w := by
    simp [Builtin.len_, run_underlying Try.underlying74, getObj, h2, goInt, Sem.run]
  go_enter Try.func25, Try.ntmps25
  go_wp2

  go_ret
  exact ⟨rfl, rfl⟩
end Go.Proofs.Ytelmndpelgbboaa
