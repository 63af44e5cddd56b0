import Derived.Test.YteioiebkielaeaaArithI
import Derived.Lib.SlBytesConst
namespace Go.Proofs.Yteioiebkielaeaa
open Go.RowKit Go.Cov Go.Lib
set_option maxRecDepth 100000 in
theorem rsame_yes {A B : Option Addr} {c d : Nat} {l : List UInt8} {w : World} (t n : Int) (h : Rd w A (l.map byt)) (g : Rd w B (l.map byt)) :
    Calls Try.prog 12 #[.agg #[.int .i64 t, .int .i64 n, .slice A l.length c], .agg #[.int .i64 t, .int .i64 n, .slice B l.length d]] w fun e w' => e = .returned (.bool true) ∧ Below w.heap.size w w' := by
  have hb := below_step (below_alloc w (.cells #[.int .i64 t, .int .i64 n, .slice A l.length c] 26)) (below_alloc (w.alloc (.cells #[.int .i64 t, .int .i64 n, .slice A l.length c] 26)) (.cells #[.int .i64 t, .int .i64 n, .slice B l.length d] 26))
  have c1 := conv_bs (P := Try.prog) Try.underlying24 Try.underlying5 Try.underlying9 (h.below hb) c
  have c2 := conv_bs (P := Try.prog) Try.underlying24 Try.underlying5 Try.underlying9 (g.below hb) d
  generalize str l = s at c1 c2
  go_enter Try.func12, Try.ntmps12
  go_wp2_with fail
  go_ret
  exact ⟨rfl, hb⟩
theorem equal_yes {A B : Option Addr} {c d : Nat} {l : List UInt8} {w : World} (h : Rd w A (l.map byt)) (g : Rd w B (l.map byt)) :
    Calls Try.prog 22 #[.slice A l.length c, .slice B l.length d] w fun e w' => e = .returned (.bool true) ∧ w = w' := by
  have c1 := conv_bs (P := Try.prog) Try.underlying24 Try.underlying5 Try.underlying9 h c
  have c2 := conv_bs (P := Try.prog) Try.underlying24 Try.underlying5 Try.underlying9 g d
  generalize str l = s at c1 c2
  go_enter Try.func22, Try.ntmps22
  go_wp2_with fail
  go_ret
  exact ⟨by simp, rfl⟩
set_option maxRecDepth 100000 in
theorem same_yes {A B : Option Addr} {c d : Nat} {l : List UInt8} {w : World} (t n : Int) (h : Rd w A (l.map byt)) (g : Rd w B (l.map byt)) :
    Calls Try.prog 18 #[.agg #[.int .i64 t, .int .i64 n, .slice A l.length c], .agg #[.int .i64 t, .int .i64 n, .slice B l.length d]] w fun e w' => e = .returned (.bool true) ∧ Below w.heap.size w w' := by
  have hb := below_step (below_alloc w (.cells #[.int .i64 t, .int .i64 n, .slice A l.length c] 26)) (below_alloc (w.alloc (.cells #[.int .i64 t, .int .i64 n, .slice A l.length c] 26)) (.cells #[.int .i64 t, .int .i64 n, .slice B l.length d] 26))
  have K := hid (equal_yes (c := c) (d := d) (h.below hb) (g.below hb))
  go_enter Try.func18, Try.ntmps18
  go_wp2_with fail
  refine K.out.mono ?_
  rintro e w' ⟨rfl, rfl⟩
  go_wp2_with fail
  go_ret
  exact ⟨rfl, hb⟩
theorem cell_up {w w2 : World} {o : Obj} (hb : Below (w.alloc o).heap.size (w.alloc o) w2) {p : Addr} {v : Value} (h : w.cell? p = some v) : w2.cell? p = some v := ((below_step (below_alloc w o) hb).cell (cell_lt h)).trans h
theorem cell_on {w w2 : World} (hb : Below w.heap.size w w2) {p : Addr} {v : Value} (h : w.cell? p = some v) : w2.cell? p = some v := (hb.cell (cell_lt h)).trans h
/-- a variable that was just made, behind a call -/
theorem var_on {w w2 : World} {cs : Array Value} {t : TypeId} (hb : Below (w.alloc (.cells cs t)).heap.size (w.alloc (.cells cs t)) w2) (i : Nat) (v : Value) (h : cs[i]? = some v) : w2.cell? ⟨w.heap.size, i, none⟩ = some v := cell_on hb (box_cell w cs t i v h)
theorem one1 : (vbool false) = .agg #[.int .i64 2, .int .i64 0, .slice none 0 0] := rfl
theorem one2 : (vbool true) = .agg #[.int .i64 2, .int .i64 1, .slice none 0 0] := rfl
set_option maxRecDepth 100000 in
set_option maxHeartbeats 2000000 in
theorem head_any (w : World) : Calls Try.prog 9 #[] w fun e w' => e = .returned (.bool true) ∧ Below w.heap.size w w' := by
  have kc := fun (w : World) (C : Array Value) (n c : Nat) => Lib.run_convert_bytes_const (P := Try.prog) w 24 5 C n c Try.underlying24 Try.underlying5
  have kc2 : ∀ (w : World) (o : Obj) (C : Array Value) (n c : Nat), (convert 24 24 (.slice (some ⟨w.heap.size + 1, 0, none⟩) n c)).run Try.prog ((w.alloc o).alloc (.cells C 5)) = .ok (.slice (some ⟨w.heap.size + 1, 0, none⟩) n c) ((w.alloc o).alloc (.cells C 5 (C.size, C.size + 1))) := fun w o C n c => by
    have := kc (w.alloc o) C n c
    rw [show (w.alloc o).heap.size = w.heap.size + 1 by simp] at this
    exact this
  have T1 : Hid (∀ w, Calls Try.prog 10 #[.string ⟨#[47]⟩, .agg #[.int .i64 1, .int .i64 (-7), .slice none 0 0], .agg #[.int .i64 1, .int .i64 2, .slice none 0 0]] w fun e w' => e = .returned (.tuple #[.agg #[.int .i64 1, .int .i64 (-3), .slice none 0 0], .int .i64 0]) ∧ Below w.heap.size w w') := hid (fun w => two_quo (-7) 2 w (by omega) (by omega))
  have T2 : Hid (∀ w, Calls Try.prog 10 #[.string ⟨#[43]⟩, .agg #[.int .i64 1, .int .i64 9223372036854775807, .slice none 0 0], .agg #[.int .i64 1, .int .i64 1, .slice none 0 0]] w fun e w' => e = .returned (.tuple #[.agg #[.int .i64 0, .int .i64 0, .slice none 0 0], .int .i64 3]) ∧ Below w.heap.size w w') := hid (fun w => by
    have := two_plus (A := none) (B := none) (n := 0) (m := 0) (c := 0) (d := 0) 9223372036854775807 1 w (by omega) (by omega)
    rw [inR_no (by omega)] at this
    exact this)
  have T3 : Hid (∀ w, Calls Try.prog 15 #[.string ⟨#[33]⟩, .agg #[.int .i64 2, .int .i64 0, .slice none 0 0]] w fun e w' => e = .returned (.tuple #[.agg #[.int .i64 2, .int .i64 1, .slice none 0 0], .int .i64 0]) ∧ Below w.heap.size w w') := hid (fun w => one_not 0 w)
  have B1 : Hid (∀ w, Calls Try.prog 17 #[.bool false] w fun e w' => e = .returned (.agg #[.int .i64 2, .int .i64 0, .slice none 0 0]) ∧ Below w.heap.size w w') := hid (fun w => bool_any false w)
  go_enter Try.func9, Try.ntmps9
  go_wp2_with fail
  refine (num_any _ _).mono ?_
  rintro e w1 ⟨rfl, h1⟩
  go_wp2_with fail
  refine (num_any _ _).mono ?_
  rintro e w2 ⟨rfl, h2⟩
  go_wp2_with fail
  refine (T1.out _).mono ?_
  rintro e w3 ⟨rfl, h3⟩
  have b3 := below_step (below_step h1 h2) h3
  go_wp2_with fail
  refine (num_any _ _).mono ?_
  rintro e w4 ⟨rfl, h4⟩
  have x1 := var_on h4 1 _ rfl
  have b4 := below_step (below_step b3 (below_alloc _ _)) h4
  go_wp2_with fail
  refine (num_any _ _).mono ?_
  rintro e w5 ⟨rfl, h5⟩
  have x1 := cell_on h5 x1
  go_wp2_with fail
  refine (T2.out _).mono ?_
  rintro e w6 ⟨rfl, h6⟩
  have x1 := cell_on h6 x1
  have b6 := below_step (below_step b4 h5) h6
  go_wp2_with fail
  refine (B1.out _).mono ?_
  rintro e w7 ⟨rfl, h7⟩
  have x1 := cell_up h7 x1
  have b7 := below_step (below_step b6 (below_alloc _ _)) h7
  go_wp2_with fail
  refine (T3.out _).mono ?_
  rintro e w8 ⟨rfl, h8⟩
  have x1 := cell_on h8 x1
  have b8 := below_step b7 h8
  have y1 := fun o => cell_on (below_alloc w8 o) x1
  go_wp2_with fail
  have r9 := rd_boxf (w8.alloc (.cells #[.int .i64 2, .int .i64 1, .slice none 0 0] 26)) #[.int .u8 97] 5 (1, 2)
  rw [show (w8.alloc (.cells #[.int .i64 2, .int .i64 1, .slice none 0 0] 26)).heap.size = w8.heap.size + 1 by simp] at r9
  refine (text_any (l := [97]) r9 (by simp)).mono ?_
  rintro e w9 ⟨A9, c9, rfl, own9, h9⟩
  have b9 := below_step (below_step (below_step b8 (below_alloc _ _)) (below_alloc _ _)) h9
  go_wp2_with fail
  have r10 := rd_boxf w9 #[.int .u8 97] 5 (1, 2)
  refine (text_any (l := [97]) r10 (by simp)).mono ?_
  rintro e w10 ⟨A10, c10, rfl, own10, h10⟩
  have s10 := below_step (below_alloc w9 _) h10
  have b10 := below_step b9 s10
  go_wp2_with fail
  refine (same_yes (l := [97]) 3 0 ((own_rd own9).below s10) (own_rd own10)).mono ?_
  rintro e w11 ⟨rfl, h11⟩
  go_wp2_with fail
  go_ret
  exact ⟨rfl, below_step b10 h11⟩
end Go.Proofs.Yteioiebkielaeaa
