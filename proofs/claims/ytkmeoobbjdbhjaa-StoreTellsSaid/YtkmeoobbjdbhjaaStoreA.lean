import Derived.Test.YtkmeoobbjdbhjaaPlain1
import Derived.Test.YtkmeoobbjdbhjaaWires1
import Derived.Test.YtkmeoobbjdbhjaaRows
import Derived.Outline
import Derived.WalkSpells
import Derived.Laws.EntriesVeiled
import Derived.Laws.Externs
import Derived.Deep.QuietTactic
import Derived.BigQuiet
namespace Go.Proofs.Ytkmeoobbjdbhjaa
open Go.RowKit Go.Cov Go.Lib
theorem equal_any {A B : Option Addr} {c d : Nat} {l m : List UInt8} {w : World} (h : Rd w A (l.map byt)) (g : Rd w B (m.map byt)) :
    Calls Try.prog 39 #[.slice A l.length c, .slice B m.length d] w fun e w' => e = .returned (.bool (decide (l = m))) ∧ w = w' := by
  have c1 := conv_bs (P := Try.prog) Try.underlying23 Try.underlying5 Try.underlying9 h c
  have c2 := conv_bs (P := Try.prog) Try.underlying23 Try.underlying5 Try.underlying9 g d
  have e := hid (str_beq l m)
  generalize str l = s at c1 e
  generalize str m = u at c2 e
  go_enter Try.func39, Try.ntmps39
  go_wp2_with fail
  go_ret
  exact ⟨by rw [← e.out]; rfl, rfl⟩
theorem compare_any {A B : Option Addr} {c d : Nat} {l m : List UInt8} {w : World} (h : Rd w A (l.map byt)) (g : Rd w B (m.map byt)) :
    Calls Try.prog 25 #[.slice A l.length c, .slice B m.length d] w fun e w' => e = .returned (.int .i64 (Lib.compareBytes l m)) ∧ w = w' := by
  have hrun := run_compare (P := Try.prog) h g c d
  go_enter Try.func25, Try.ntmps25
  go_wp2
  rw [run_callFunc_extern Try.func37 (by kernel_rfl) (by kernel_rfl) (by kernel_rfl) (e := Extern.BytealgCompare.compare) (by kernel_rfl), hrun]
  simp only [Result.andThen]
  rw [Oper.upon_value]
  go_wp2
  go_ret
  exact ⟨rfl, rfl⟩
theorem find1_any {a : Pr} {A : Option Addr} {q d : Nat} {m : List UInt8} {w : World} (h : Rd w a.kA (a.k.map byt)) (hq : w.cell? ⟨q, 0, none⟩ = some (.slice A m.length d)) (g : Rd w A (m.map byt)) :
    Calls Try.prog 38 #[.agg #[a.key, a.val], .pointer (some ⟨q, 0, none⟩)] w fun e w' => e = .returned (.bool (decide (a.k = m))) ∧ Below w.heap.size w w' := by
  unfold Pr.key Pr.val
  have hb := below_alloc w (.cells #[.slice a.kA a.k.length a.kc, .slice a.vA a.v.length a.vc] 42)
  have hq2 := fun o => (below_alloc w o).cell (cell_lt hq) |>.trans hq
  have K := hid (equal_any (c := a.kc) (d := d) (h.below hb) (g.below hb))
  go_enter Try.func38, Try.ntmps38
  go_wp2_with fail
  refine K.out.mono ?_
  rintro e w' ⟨rfl, rfl⟩
  go_wp2_with fail
  go_ret
  exact ⟨rfl, hb⟩
theorem put1_any {a : Pr} {A : Option Addr} {q d : Nat} {m : List UInt8} {w : World} (h : Rd w a.kA (a.k.map byt)) (hq : w.cell? ⟨q, 0, none⟩ = some (.slice A m.length d)) (g : Rd w A (m.map byt)) :
    Calls Try.prog 28 #[.agg #[a.key, a.val], .pointer (some ⟨q, 0, none⟩)] w fun e w' => e = .returned (.bool (decide (0 < Lib.compareBytes a.k m))) ∧ Below w.heap.size w w' := by
  unfold Pr.key Pr.val
  have hb := below_alloc w (.cells #[.slice a.kA a.k.length a.kc, .slice a.vA a.v.length a.vc] 42)
  have hq2 := fun o => (below_alloc w o).cell (cell_lt hq) |>.trans hq
  have K := hid (compare_any (c := a.kc) (d := d) (h.below hb) (g.below hb))
  generalize Lib.compareBytes a.k m = z at K
  go_enter Try.func28, Try.ntmps28
  go_wp2_with fail
  refine K.out.mono ?_
  rintro e w' ⟨rfl, rfl⟩
  go_wp2_with fail
  go_ret
  exact ⟨rfl, hb⟩
end Go.Proofs.Ytkmeoobbjdbhjaa
