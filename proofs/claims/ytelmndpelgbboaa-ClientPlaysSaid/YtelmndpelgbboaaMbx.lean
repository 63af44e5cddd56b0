import Derived.Test.YtelmndpelgbboaaRows
import Derived.Test.YtelmndpelgbboaaPlain1
import Derived.Conc.LoneSelect
import Derived.Conc.SmallLaws
namespace Go.Proofs.Ytelmndpelgbboaa
open Go.RowKit Go.Conc
open Go.Cov
/-- a box: its struct's block b, its channel's block c, room for cap, what waits -/
def Box (w : World) (b c cap : Nat) (t : TypeId) (l : List Value) : Prop :=
  w.heap[b]? = some (.cells #[.chan (some c)] t (0, 0)) ∧ ∃ s r, w.heap[c]? = some (.chan cap l.toArray false s r false)
theorem Box.ne {w : World} {b c cap : Nat} {t : TypeId} {l : List Value} (h : Box w b c cap t l) : b ≠ c := by
  rintro rfl
  obtain ⟨h1, s, r, h2⟩ := h
  rw [h1] at h2; cases h2
theorem Box.cell {w : World} {b c cap : Nat} {t : TypeId} {l : List Value} (h : Box w b c cap t l) : w.cell? ⟨b, 0, none⟩ = some (.chan (some c)) := by
  rw [cell_of_row w b 0 _ t (0, 0) h.1]; rfl
theorem Box.lt {w : World} {b c cap : Nat} {t : TypeId} {l : List Value} (h : Box w b c cap t l) : b < w.heap.size ∧ c < w.heap.size := by
  obtain ⟨h1, s, r, h2⟩ := h
  exact ⟨(Array.getElem?_eq_some_iff.1 h1).1, (Array.getElem?_eq_some_iff.1 h2).1⟩
theorem setChan_grown (w : World) (c cap : Nat) (buf : Array Value) (cl : Bool) (s r : Nat) (tm : Bool) : w.grownBy (w.setChan c cap buf cl s r tm) (some c) :=
  ⟨rfl, rfl, rfl, by simp [World.setChan], fun k _ hne => by simp only [World.setChan]; rw [Array.getElem?_setIfInBounds_ne (by intro h; exact hne (by rw [h]))]⟩
theorem Box.set {w : World} {b c cap : Nat} {t : TypeId} {l : List Value} (h : Box w b c cap t l) (l' : List Value) (s r : Nat) : Box (w.setChan c cap l'.toArray false s r false) b c cap t l' :=
  ⟨by rw [(setChan_grown w c cap l'.toArray false s r false).block b h.lt.1 (by intro hh; exact h.ne (by injection hh))]; exact h.1, s, r, heap_setChan w c cap _ false s r false h.lt.2⟩
theorem Box.kept {w w' : World} {b c cap : Nat} {t : TypeId} {l : List Value} (h : Box w b c cap t l) {row : Option Nat} (hg : w.grownBy w' row) (hb : some b ≠ row) (hc : some c ≠ row) : Box w' b c cap t l := by
  have hl := h.lt
  obtain ⟨h1, s, r, h2⟩ := h
  exact ⟨by rw [hg.block b hl.1 hb]; exact h1, s, r, by rw [hg.block c hl.2 hc]; exact h2⟩
theorem Box.below {w w' : World} {b c cap : Nat} {t : TypeId} {l : List Value} (h : Box w b c cap t l) (hb : Below w.heap.size w w') : Box w' b c cap t l :=
  h.kept (row := none) ⟨hb.os, hb.tape, hb.output, hb.size, fun k hk _ => hb.block k hk⟩ (by simp) (by simp)

set_option maxRecDepth 100000 in
theorem put_room (b : Nat) (n : Int) (V : Option Addr) (m k : Nat) (w : World) (c cap s r : Nat) (buf : Array Value) (hp : w.cell? ⟨b, 0, none⟩ = some (.chan (some c))) (hc : w.heap[c]? = some (.chan cap buf false s r false)) (hroom : buf.size < cap) :
    Calls Try.prog 23 #[.pointer (some ⟨b, 0, none⟩), .agg #[.int .i64 n, .slice V m k]] w fun e w' => e = .returned (.bool true) ∧ (w.alloc (.cells #[.int .i64 n, .slice V m k] 59)).setChan c cap (buf.push (.agg #[.int .i64 n, .slice V m k])) false (s + 1) r false = w' := by
  refine calls_of_loneTo fun cs => ?_
  have e : Frame.enter Try.prog 23 #[.pointer (some ⟨b, 0, none⟩), .agg #[.int .i64 n, .slice V m k]] .normal = (base 23).at ⟨#[.pointer (some ⟨b, 0, none⟩), .agg #[.int .i64 n, .slice V m k], undef, undef, undef, undef, undef, undef, undef, undef, undef, undef, undef], []⟩ [.code (Try.f23.body.getD .skip)] := by
    simp [Frame.enter, Frame.at, Try.func23, base, Try.f23]
  rw [e]
  have ba := below_alloc w (.cells #[.int .i64 n, .slice V m k] 59)
  have hp1 := cell_on ba hp
  have x0 := box_cell w #[.int .i64 n, .slice V m k] 59 0 _ rfl
  have x1 := box_cell w #[.int .i64 n, .slice V m k] 59 1 _ rfl
  have hc1 := (ba.block c (Array.getElem?_eq_some_iff.1 hc).1).trans hc
  refine LoneTo.goes (n := 30) ?_
  simp only [Try.f23, Option.getD_some]
  s_c stepG_seq
  s_reg
  s_op
  generalize w.alloc (.cells #[.int .i64 n, .slice V m k] 59) = w1 at hp1 x0 x1 hc1 ⊢
  s_op
  s_c stepG_region_end
  s_c stepG_seq
  s_c stepG_seq
  s_reg
  s_op
  s_op
  s_op
  s_op
  s_c stepG_region_end
  s_reg
  s_op
  s_c stepG_region_end
  s_c stepG_seq
  s_reg
  s_stop
  refine LoneTo.step (step_lone_select_send_room (c := c) (v := .agg #[.int .i64 n, .slice V m k]) (z' := .agg #[.int .i64 0, .slice none 0 0]) (cap := cap) (buf := buf) (s := s) (r := r) (tm := false) (stepG_comm (cases := #[scase c (.agg #[.int .i64 n, .slice V m k]) (.agg #[.int .i64 0, .slice none 0 0])]) (blocking := false) (shape := .select) (w' := w1) rfl rfl (by decide) (by simp [go_sem, execOp, scase, Act.eval])) hc1 hroom) ?_
  rw [Frame.finish_at]
  walk_nrm
  refine LoneTo.goes (n := 10) ?_
  s_op
  s_op
  s_c stepG_region_end
  s_c stepG_block
  s_cond true
  s_c stepG_seq
  s_reg
  s_op
  s_c stepG_region_end
  s_c stepG_ret'
  s_stop
  exact LoneTo.done ⟨.returned (.bool true), _, rfl, ⟨rfl, rfl⟩, rfl, rfl, rfl, rfl, _, Try.func23, by simp [results, Try.f23, Frame.at]⟩
set_option maxRecDepth 100000 in
theorem put_full (b : Nat) (n : Int) (V : Option Addr) (m k : Nat) (w : World) (c cap s r : Nat) (buf : Array Value) (hp : w.cell? ⟨b, 0, none⟩ = some (.chan (some c))) (hc : w.heap[c]? = some (.chan cap buf false s r false)) (hfull : cap ≤ buf.size) :
    Calls Try.prog 23 #[.pointer (some ⟨b, 0, none⟩), .agg #[.int .i64 n, .slice V m k]] w fun e w' => e = .returned (.bool false) ∧ w.alloc (.cells #[.int .i64 n, .slice V m k] 59) = w' := by
  refine calls_of_loneTo fun cs => ?_
  have e : Frame.enter Try.prog 23 #[.pointer (some ⟨b, 0, none⟩), .agg #[.int .i64 n, .slice V m k]] .normal = (base 23).at ⟨#[.pointer (some ⟨b, 0, none⟩), .agg #[.int .i64 n, .slice V m k], undef, undef, undef, undef, undef, undef, undef, undef, undef, undef, undef], []⟩ [.code (Try.f23.body.getD .skip)] := by
    simp [Frame.enter, Frame.at, Try.func23, base, Try.f23]
  rw [e]
  have ba := below_alloc w (.cells #[.int .i64 n, .slice V m k] 59)
  have hp1 := cell_on ba hp
  have x0 := box_cell w #[.int .i64 n, .slice V m k] 59 0 _ rfl
  have x1 := box_cell w #[.int .i64 n, .slice V m k] 59 1 _ rfl
  have hc1 := (ba.block c (Array.getElem?_eq_some_iff.1 hc).1).trans hc
  refine LoneTo.goes (n := 30) ?_
  simp only [Try.f23, Option.getD_some]
  s_c stepG_seq
  s_reg
  s_op
  generalize w.alloc (.cells #[.int .i64 n, .slice V m k] 59) = w1 at hp1 x0 x1 hc1 ⊢
  s_op
  s_c stepG_region_end
  s_c stepG_seq
  s_c stepG_seq
  s_reg
  s_op
  s_op
  s_op
  s_op
  s_c stepG_region_end
  s_reg
  s_op
  s_c stepG_region_end
  s_c stepG_seq
  s_reg
  s_stop
  refine LoneTo.step (step_lone_select_send_full (c := c) (v := .agg #[.int .i64 n, .slice V m k]) (z' := .agg #[.int .i64 0, .slice none 0 0]) (cap := cap) (buf := buf) (s := s) (r := r) (tm := false) (stepG_comm (cases := #[scase c (.agg #[.int .i64 n, .slice V m k]) (.agg #[.int .i64 0, .slice none 0 0])]) (blocking := false) (shape := .select) (w' := w1) rfl rfl (by decide) (by simp [go_sem, execOp, scase, Act.eval])) hc1 hfull) ?_
  rw [Frame.finish_at]
  walk_nrm
  refine LoneTo.goes (n := 10) ?_
  s_op
  s_op
  s_c stepG_region_end
  s_c stepG_block
  s_cond false
  s_c stepG_seq
  s_reg
  s_op
  s_c stepG_region_end
  s_c stepG_ret'
  s_stop
  exact LoneTo.done ⟨.returned (.bool false), _, rfl, ⟨rfl, rfl⟩, rfl, rfl, rfl, rfl, _, Try.func23, by simp [results, Try.f23, Frame.at]⟩
/-- what waits is taken -/
theorem heap_set2 {w : World} {b c : Nat} {x y : Value} (h : c ≠ b) : ((w.setCell ⟨b, 0, none⟩ x).setCell ⟨b, 1, none⟩ y).heap[c]? = w.heap[c]? := by
  simp only [World.setCell, Array.getElem?_modify]
  rw [if_neg (Ne.symm h), if_neg (Ne.symm h)]
set_option maxRecDepth 100000 in
theorem take_some (b : Nat) (n : Int) (V : Option Addr) (m k : Nat) (buf : Array Value) (w : World) (c cap s r : Nat) (hp : w.cell? ⟨b, 0, none⟩ = some (.chan (some c))) (hc : w.heap[c]? = some (.chan cap buf false s r false)) (hsome : 0 < buf.size) (hy : buf[0] = .agg #[.int .i64 n, .slice V m k]) :
    Calls Try.prog 31 #[.pointer (some ⟨b, 0, none⟩)] w fun e w' => e = .returned (.tuple #[.agg #[.int .i64 n, .slice V m k], .bool true]) ∧ ∃ s' r', w'.heap[c]? = some (.chan cap (buf.extract 1 buf.size) false s' r' false) ∧ w.grownBy w' (some c) := by
  refine calls_of_loneTo fun cs => ?_
  have e : Frame.enter Try.prog 31 #[.pointer (some ⟨b, 0, none⟩)] .normal = (base 31).at ⟨#[.pointer (some ⟨b, 0, none⟩), undef, undef, undef, undef, undef, undef, undef, undef, undef, undef, undef, undef, undef, undef, undef], []⟩ [.code (Try.f31.body.getD .skip)] := by
    simp [Frame.enter, Frame.at, Try.func31, base, Try.f31]
  rw [e]
  have ba := below_alloc w (.cells #[.int .i64 0, .slice none 0 0] 59)
  have hp1 := cell_on ba hp
  have hcl := (Array.getElem?_eq_some_iff.1 hc).1
  have x0 := box_cell w #[.int .i64 0, .slice none 0 0] 59 0 _ rfl
  have x1 := box_cell w #[.int .i64 0, .slice none 0 0] 59 1 _ rfl
  have f0 := World.frozen?_alloc_new (w := w) #[.int .i64 0, .slice none 0 0] 59 0
  have f1 := World.frozen?_alloc_new (w := w) #[.int .i64 0, .slice none 0 0] 59 1
  have hc1 := (ba.block c hcl).trans hc
  have n1 : (w.alloc (.cells #[.int .i64 0, .slice none 0 0] 59)).heap.size = w.heap.size + 1 := by simp
  refine LoneTo.goes (n := 30) ?_
  simp only [Try.f31, Option.getD_some]
  s_c stepG_seq
  s_reg
  s_op
  generalize w.alloc (.cells #[.int .i64 0, .slice none 0 0] 59) = w1 at ba hp1 x0 x1 f0 f1 hc1 n1 ⊢
  s_op
  s_c stepG_region_end
  s_c stepG_seq
  s_reg
  s_op
  s_op
  s_op
  s_op
  s_c stepG_region_end
  s_c stepG_seq
  s_reg
  s_stop
  refine LoneTo.step (step_lone_select_recv_buf (c := c) (z := .agg #[.int .i64 0, .slice none 0 0]) (cap := cap) (buf := buf) (s := s) (r := r) (tm := false) (stepG_comm (cases := #[rcase c (.agg #[.int .i64 0, .slice none 0 0])]) (blocking := false) (shape := .select) (w' := w1) rfl rfl (by decide) (by simp [go_sem, execOp, rcase, Act.eval])) hc1 hsome) ?_
  rw [Frame.finish_at]
  walk_nrm
  have hg2 := setChan_grown w1 c cap (buf.extract 1 buf.size) false s (r + 1) false
  have hc2 := heap_setChan w1 c cap (buf.extract 1 buf.size) false s (r + 1) false (by omega)
  have hne : some w.heap.size ≠ some c := by intro e; injection e with e; omega
  have x0 := hg2.cell x0 hne
  have x1 := hg2.cell x1 hne
  have f0 := (World.frozen?_of_block (a := ⟨w.heap.size, 0, none⟩) (hg2.block w.heap.size (by rw [n1]; exact Nat.lt_succ_self _) hne)).trans f0
  have f1 := (World.frozen?_of_block (a := ⟨w.heap.size, 1, none⟩) (hg2.block w.heap.size (by rw [n1]; exact Nat.lt_succ_self _) hne)).trans f1
  have n2 : (w1.setChan c cap (buf.extract 1 buf.size) false s (r + 1) false).heap.size = w.heap.size + 1 := by simp [World.setChan, n1]
  have hy2 : buf.getD 0 undef = .agg #[.int .i64 n, .slice V m k] := by rw [← hy]; simp [hsome]
  (try rw [hy2])
  generalize w1.setChan c cap (buf.extract 1 buf.size) false s (r + 1) false = w2 at hg2 hc2 x0 x1 f0 f1 n2 ⊢
  have ba3 := below_alloc w2 (.cells #[.int .i64 0, .slice none 0 0] 59)
  have y0 := box_cell w2 #[.int .i64 0, .slice none 0 0] 59 0 _ rfl
  have y1 := box_cell w2 #[.int .i64 0, .slice none 0 0] 59 1 _ rfl
  have d0 := World.frozen?_alloc_new (w := w2) #[.int .i64 0, .slice none 0 0] 59 0
  have d1 := World.frozen?_alloc_new (w := w2) #[.int .i64 0, .slice none 0 0] 59 1
  have hc3 := (ba3.block c (Array.getElem?_eq_some_iff.1 hc2).1).trans hc2
  have n3 : (w2.alloc (.cells #[.int .i64 0, .slice none 0 0] 59)).heap.size = w.heap.size + 2 := by simp [n2]
  have x0 := cell_on ba3 x0
  have x1 := cell_on ba3 x1
  have f0 := froz_on ba3 (by omega) f0
  have f1 := froz_on ba3 (by omega) f1
  rw [n2] at y0 y1 d0 d1
  refine LoneTo.goes (n := 30) ?_
  s_op
  s_op
  s_c stepG_region_end
  s_c stepG_block
  s_cond true
  s_c stepG_seq
  s_reg
  s_op
  s_op
  (try rw [n2])
  generalize w2.alloc (.cells #[.int .i64 0, .slice none 0 0] 59) = w3 at ba3 x0 x1 f0 f1 y0 y1 d0 d1 hc3 n3 ⊢
  s_op
  have hne3 : ∀ i j : Nat, (⟨w.heap.size + 1, i, none⟩ : Addr) ≠ ⟨w.heap.size, j, none⟩ := fun i j e => by injection e with e; omega
  obtain ⟨y0, y1⟩ := set2_cells y0 y1 (.int .i64 n) (.slice V m k)
  have x0 : ((w3.setCell ⟨w.heap.size + 1, 0, none⟩ (.int .i64 n)).setCell ⟨w.heap.size + 1, 1, none⟩ (.slice V m k)).cell? ⟨w.heap.size, 0, none⟩ = _ := ((World.cell?_setCell_other _ _ _ _ (hne3 1 0)).trans (World.cell?_setCell_other _ _ _ _ (hne3 0 0))).trans x0
  have x1 : ((w3.setCell ⟨w.heap.size + 1, 0, none⟩ (.int .i64 n)).setCell ⟨w.heap.size + 1, 1, none⟩ (.slice V m k)).cell? ⟨w.heap.size, 1, none⟩ = _ := ((World.cell?_setCell_other _ _ _ _ (hne3 1 1)).trans (World.cell?_setCell_other _ _ _ _ (hne3 0 1))).trans x1
  have f0 : ((w3.setCell ⟨w.heap.size + 1, 0, none⟩ (.int .i64 n)).setCell ⟨w.heap.size + 1, 1, none⟩ (.slice V m k)).frozen? ⟨w.heap.size, 0, none⟩ = false := by rw [World.frozen?_setCell, World.frozen?_setCell]; exact f0
  have f1 : ((w3.setCell ⟨w.heap.size + 1, 0, none⟩ (.int .i64 n)).setCell ⟨w.heap.size + 1, 1, none⟩ (.slice V m k)).frozen? ⟨w.heap.size, 1, none⟩ = false := by rw [World.frozen?_setCell, World.frozen?_setCell]; exact f1
  have hc4 : ((w3.setCell ⟨w.heap.size + 1, 0, none⟩ (.int .i64 n)).setCell ⟨w.heap.size + 1, 1, none⟩ (.slice V m k)).heap[c]? = _ := (heap_set2 (by omega)).trans hc3
  have n4 : ((w3.setCell ⟨w.heap.size + 1, 0, none⟩ (.int .i64 n)).setCell ⟨w.heap.size + 1, 1, none⟩ (.slice V m k)).heap.size = w.heap.size + 2 := by simp [n3]
  have b4 : Below w2.heap.size w2 ((w3.setCell ⟨w.heap.size + 1, 0, none⟩ (.int .i64 n)).setCell ⟨w.heap.size + 1, 1, none⟩ (.slice V m k)) := (ba3.setCell (p := ⟨w.heap.size + 1, 0, none⟩) (by simp; omega) _).setCell (p := ⟨w.heap.size + 1, 1, none⟩) (by simp; omega) _
  generalize ((w3.setCell ⟨w.heap.size + 1, 0, none⟩ (.int .i64 n)).setCell ⟨w.heap.size + 1, 1, none⟩ (.slice V m k)) = w4 at y0 y1 x0 x1 f0 f1 hc4 n4 b4 ⊢
  s_c stepG_region_end
  s_c stepG_seq
  s_reg
  s_op
  s_op
  obtain ⟨z0, z1⟩ := set2_cells x0 x1 (.int .i64 n) (.slice V m k)
  have hc5 : ((w4.setCell ⟨w.heap.size, 0, none⟩ (.int .i64 n)).setCell ⟨w.heap.size, 1, none⟩ (.slice V m k)).heap[c]? = _ := (heap_set2 (by omega)).trans hc4
  have b5 : w2.grownBy ((w4.setCell ⟨w.heap.size, 0, none⟩ (.int .i64 n)).setCell ⟨w.heap.size, 1, none⟩ (.slice V m k)) (some w.heap.size) := ⟨b4.os, b4.tape, b4.output, by simp; exact b4.size, fun k hk hne => (heap_set2 (fun e => hne (by rw [e]))).trans (b4.block k hk)⟩
  generalize ((w4.setCell ⟨w.heap.size, 0, none⟩ (.int .i64 n)).setCell ⟨w.heap.size, 1, none⟩ (.slice V m k)) = w5 at z0 z1 hc5 b5 ⊢
  s_op
  s_c stepG_region_end
  s_c stepG_ret'
  s_stop
  have hgr : w.grownBy w5 (some c) := grown_after (grown_after (grown_of_below ba _) hg2 (fun _ _ => .inr rfl)) b5 (fun j hj => .inl (by injection hj with hj; omega))
  exact LoneTo.done ⟨.returned (.tuple #[.agg #[.int .i64 n, .slice V m k], .bool true]), _, rfl, ⟨rfl, _, _, hc5, hgr⟩, rfl, rfl, rfl, rfl, _, Try.func31, by simp [results, Try.f31, Frame.at, go_sem, z0, z1]⟩
set_option maxRecDepth 100000 in
theorem take_none (b : Nat) (w : World) (c cap s r : Nat) (hp : w.cell? ⟨b, 0, none⟩ = some (.chan (some c))) (hc : w.heap[c]? = some (.chan cap #[] false s r false))  :
    Calls Try.prog 31 #[.pointer (some ⟨b, 0, none⟩)] w fun e w' => e = .returned (.tuple #[.agg #[.int .i64 0, .slice none 0 0], .bool false]) ∧ ∃ s' r', w'.heap[c]? = some (.chan cap #[] false s' r' false) ∧ w.grownBy w' (some c) := by
  refine calls_of_loneTo fun cs => ?_
  have e : Frame.enter Try.prog 31 #[.pointer (some ⟨b, 0, none⟩)] .normal = (base 31).at ⟨#[.pointer (some ⟨b, 0, none⟩), undef, undef, undef, undef, undef, undef, undef, undef, undef, undef, undef, undef, undef, undef, undef], []⟩ [.code (Try.f31.body.getD .skip)] := by
    simp [Frame.enter, Frame.at, Try.func31, base, Try.f31]
  rw [e]
  have ba := below_alloc w (.cells #[.int .i64 0, .slice none 0 0] 59)
  have hp1 := cell_on ba hp
  have hcl := (Array.getElem?_eq_some_iff.1 hc).1
  have x0 := box_cell w #[.int .i64 0, .slice none 0 0] 59 0 _ rfl
  have x1 := box_cell w #[.int .i64 0, .slice none 0 0] 59 1 _ rfl
  have f0 := World.frozen?_alloc_new (w := w) #[.int .i64 0, .slice none 0 0] 59 0
  have f1 := World.frozen?_alloc_new (w := w) #[.int .i64 0, .slice none 0 0] 59 1
  have hc1 := (ba.block c hcl).trans hc
  have n1 : (w.alloc (.cells #[.int .i64 0, .slice none 0 0] 59)).heap.size = w.heap.size + 1 := by simp
  refine LoneTo.goes (n := 30) ?_
  simp only [Try.f31, Option.getD_some]
  s_c stepG_seq
  s_reg
  s_op
  generalize w.alloc (.cells #[.int .i64 0, .slice none 0 0] 59) = w1 at ba hp1 x0 x1 f0 f1 hc1 n1 ⊢
  s_op
  s_c stepG_region_end
  s_c stepG_seq
  s_reg
  s_op
  s_op
  s_op
  s_op
  s_c stepG_region_end
  s_c stepG_seq
  s_reg
  s_stop
  refine LoneTo.step (step_lone_select_default (c := c) (z := .agg #[.int .i64 0, .slice none 0 0]) (cap := cap) (s := s) (r := r) (tm := false) (stepG_comm (cases := #[rcase c (.agg #[.int .i64 0, .slice none 0 0])]) (blocking := false) (shape := .select) (w' := w1) rfl rfl (by decide) (by simp [go_sem, execOp, rcase, Act.eval])) hc1) ?_
  rw [Frame.finish_at]
  walk_nrm
  have hg2 := World.grownBy.refl w1 (some c)
  have hc2 := hc1
  have n2 := n1
  have ba3 := below_alloc w1 (.cells #[.int .i64 0, .slice none 0 0] 59)
  have y0 := box_cell w1 #[.int .i64 0, .slice none 0 0] 59 0 _ rfl
  have y1 := box_cell w1 #[.int .i64 0, .slice none 0 0] 59 1 _ rfl
  have d0 := World.frozen?_alloc_new (w := w1) #[.int .i64 0, .slice none 0 0] 59 0
  have d1 := World.frozen?_alloc_new (w := w1) #[.int .i64 0, .slice none 0 0] 59 1
  have hc3 := (ba3.block c (Array.getElem?_eq_some_iff.1 hc2).1).trans hc2
  have n3 : (w1.alloc (.cells #[.int .i64 0, .slice none 0 0] 59)).heap.size = w.heap.size + 2 := by simp [n2]
  have x0 := cell_on ba3 x0
  have x1 := cell_on ba3 x1
  have f0 := froz_on ba3 (by omega) f0
  have f1 := froz_on ba3 (by omega) f1
  rw [n2] at y0 y1 d0 d1
  refine LoneTo.goes (n := 30) ?_
  s_op
  s_op
  s_c stepG_region_end
  s_c stepG_block
  s_cond false
  s_c stepG_seq
  s_reg
  s_op
  (try rw [n2])
  have b4 := ba3
  have hc4 := hc3
  have n4 := n3
  generalize w1.alloc (.cells #[.int .i64 0, .slice none 0 0] 59) = w4 at b4 x0 x1 f0 f1 y0 y1 d0 d1 hc4 n4 ⊢
  s_c stepG_region_end
  s_c stepG_seq
  s_reg
  s_op
  s_op
  obtain ⟨z0, z1⟩ := set2_cells x0 x1 (.int .i64 0) (.slice none 0 0)
  have hc5 : ((w4.setCell ⟨w.heap.size, 0, none⟩ (.int .i64 0)).setCell ⟨w.heap.size, 1, none⟩ (.slice none 0 0)).heap[c]? = _ := (heap_set2 (by omega)).trans hc4
  have b5 : w1.grownBy ((w4.setCell ⟨w.heap.size, 0, none⟩ (.int .i64 0)).setCell ⟨w.heap.size, 1, none⟩ (.slice none 0 0)) (some w.heap.size) := ⟨b4.os, b4.tape, b4.output, by simp; exact b4.size, fun k hk hne => (heap_set2 (fun e => hne (by rw [e]))).trans (b4.block k hk)⟩
  generalize ((w4.setCell ⟨w.heap.size, 0, none⟩ (.int .i64 0)).setCell ⟨w.heap.size, 1, none⟩ (.slice none 0 0)) = w5 at z0 z1 hc5 b5 ⊢
  s_op
  s_c stepG_region_end
  s_c stepG_ret'
  s_stop
  have hgr : w.grownBy w5 (some c) := grown_after (grown_after (grown_of_below ba _) hg2 (fun _ _ => .inr rfl)) b5 (fun j hj => .inl (by injection hj with hj; omega))
  exact LoneTo.done ⟨.returned (.tuple #[.agg #[.int .i64 0, .slice none 0 0], .bool false]), _, rfl, ⟨rfl, _, _, hc5, hgr⟩, rfl, rfl, rfl, rfl, _, Try.func31, by simp [results, Try.f31, Frame.at, go_sem, z0, z1]⟩
end Go.Proofs.Ytelmndpelgbboaa
