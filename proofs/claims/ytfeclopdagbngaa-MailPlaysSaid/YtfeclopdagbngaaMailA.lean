import Derived.Test.YtfeclopdagbngaaRows
import Derived.WalkKit
import Derived.WalkLawsBesides
import Derived.ProofKit
import Derived.Conc.LoneSelect
import Derived.Conc.SmallLaws
namespace Go.Proofs.Ytfeclopdagbngaa
open Go.RowKit Go.Conc

set_option maxRecDepth 100000 in
theorem put_room (p : Addr) (x : Value) (w : World) (c cap s r : Nat) (buf : Array Value) (hp : w.cell? p = some (.chan (some c))) (hc : w.heap[c]? = some (.chan cap buf false s r false)) (hroom : buf.size < cap) :
    Calls Try.prog 8 #[.pointer (some p), x] w fun e w' => e = .returned (.bool true) ∧ w.setChan c cap (buf.push x) false (s + 1) r false = w' := by
  refine calls_of_loneTo fun cs => ?_
  have e : Frame.enter Try.prog 8 #[.pointer (some p), x] .normal = (base 8).at ⟨#[.pointer (some p), x, undef, undef, undef, undef, undef, undef, undef, undef, undef, undef, undef], []⟩ [.code (Try.f8.body.getD .skip)] := by
    simp [Frame.enter, Frame.at, Try.func8, base, Try.f8]
  rw [e]
  refine LoneTo.goes (n := 17) ?_
  simp only [Try.f8, Option.getD_some]
  s_c stepG_seq
  s_reg
  s_op
  s_c stepG_region_end
  s_c stepG_seq
  s_c stepG_seq
  s_reg
  s_op
  s_op
  s_op
  s_op
  s_c stepG_region_end
  s_reg
  s_op
  s_c stepG_region_end
  s_c stepG_seq
  s_reg
  s_stop
  refine LoneTo.step (step_lone_select_send_room (c := c) (v := x) (z' := .string ⟨#[]⟩) (cap := cap) (buf := buf) (s := s) (r := r) (tm := false) (stepG_comm (cases := #[scase c x (.string ⟨#[]⟩)]) (blocking := false) (shape := .select) (w' := w) rfl rfl (by decide) (by simp [go_sem, execOp, scase, Act.eval])) hc hroom) ?_
  rw [Frame.finish_at]
  walk_nrm
  refine LoneTo.goes (n := 10) ?_
  s_op
  s_op
  s_c stepG_region_end
  s_c stepG_block
  s_cond true
  s_c stepG_seq
  s_reg
  s_op
  s_c stepG_region_end
  s_c stepG_ret'
  s_stop
  exact LoneTo.done ⟨.returned (.bool true), _, rfl, ⟨rfl, rfl⟩, rfl, rfl, rfl, rfl, _, Try.func8, by simp [results, Try.f8, Frame.at]⟩

set_option maxRecDepth 100000 in
theorem put_full (p : Addr) (x : Value) (w : World) (c cap s r : Nat) (buf : Array Value) (hp : w.cell? p = some (.chan (some c))) (hc : w.heap[c]? = some (.chan cap buf false s r false)) (hfull : cap ≤ buf.size) :
    Calls Try.prog 8 #[.pointer (some p), x] w fun e w' => e = .returned (.bool false) ∧ w = w' := by
  refine calls_of_loneTo fun cs => ?_
  have e : Frame.enter Try.prog 8 #[.pointer (some p), x] .normal = (base 8).at ⟨#[.pointer (some p), x, undef, undef, undef, undef, undef, undef, undef, undef, undef, undef, undef], []⟩ [.code (Try.f8.body.getD .skip)] := by
    simp [Frame.enter, Frame.at, Try.func8, base, Try.f8]
  rw [e]
  refine LoneTo.goes (n := 17) ?_
  simp only [Try.f8, Option.getD_some]
  s_c stepG_seq
  s_reg
  s_op
  s_c stepG_region_end
  s_c stepG_seq
  s_c stepG_seq
  s_reg
  s_op
  s_op
  s_op
  s_op
  s_c stepG_region_end
  s_reg
  s_op
  s_c stepG_region_end
  s_c stepG_seq
  s_reg
  s_stop
  refine LoneTo.step (step_lone_select_send_full (c := c) (v := x) (z' := .string ⟨#[]⟩) (cap := cap) (buf := buf) (s := s) (r := r) (tm := false) (stepG_comm (cases := #[scase c x (.string ⟨#[]⟩)]) (blocking := false) (shape := .select) (w' := w) rfl rfl (by decide) (by simp [go_sem, execOp, scase, Act.eval])) hc hfull) ?_
  rw [Frame.finish_at]
  walk_nrm
  refine LoneTo.goes (n := 10) ?_
  s_op
  s_op
  s_c stepG_region_end
  s_c stepG_block
  s_cond false
  s_c stepG_seq
  s_reg
  s_op
  s_c stepG_region_end
  s_c stepG_ret'
  s_stop
  exact LoneTo.done ⟨.returned (.bool false), _, rfl, ⟨rfl, rfl⟩, rfl, rfl, rfl, rfl, _, Try.func8, by simp [results, Try.f8, Frame.at]⟩

set_option maxRecDepth 100000 in
theorem take_some (p : Addr) (w : World) (c cap s r : Nat) (buf : Array Value) (y : Value) (hp : w.cell? p = some (.chan (some c))) (hc : w.heap[c]? = some (.chan cap buf false s r false)) (hsome : 0 < buf.size) (hy : buf[0] = y) :
    Calls Try.prog 9 #[.pointer (some p)] w fun e w' => e = .returned (.tuple #[y, .bool true]) ∧ w.setChan c cap (buf.extract 1 buf.size) false s (r + 1) false = w' := by
  refine calls_of_loneTo fun cs => ?_
  have e : Frame.enter Try.prog 9 #[.pointer (some p)] .normal = (base 9).at ⟨#[.pointer (some p), undef, undef, undef, undef, undef, undef, undef, undef, undef, undef, undef, undef, undef, undef, undef], []⟩ [.code (Try.f9.body.getD .skip)] := by
    simp [Frame.enter, Frame.at, Try.func9, base, Try.f9]
  rw [e]
  refine LoneTo.goes (n := 15) ?_
  simp only [Try.f9, Option.getD_some]
  s_c stepG_seq
  s_reg
  s_op
  s_op
  s_c stepG_region_end
  s_c stepG_seq
  s_reg
  s_op
  s_op
  s_op
  s_op
  s_c stepG_region_end
  s_c stepG_seq
  s_reg
  s_stop
  refine LoneTo.step (step_lone_select_recv_buf (c := c) (z := .string ⟨#[]⟩) (cap := cap) (buf := buf) (s := s) (r := r) (tm := false) (stepG_comm (cases := #[rcase c (.string ⟨#[]⟩)]) (blocking := false) (shape := .select) (w' := w) rfl rfl (by decide) (by simp [go_sem, execOp, rcase, Act.eval])) hc hsome) ?_
  rw [Frame.finish_at]
  walk_nrm
  refine LoneTo.goes (n := 17) ?_
  s_op
  s_op
  s_c stepG_region_end
  s_c stepG_block
  s_cond true
  s_c stepG_seq
  s_reg
  s_op
  s_op
  s_c stepG_region_end
  s_c stepG_seq
  s_reg
  s_op
  s_op
  s_op
  s_c stepG_region_end
  s_c stepG_ret'
  s_stop
  exact LoneTo.done ⟨.returned (.tuple #[y, .bool true]), _, rfl, ⟨rfl, rfl⟩, rfl, rfl, rfl, rfl, _, Try.func9, by simp [results, Try.f9, Frame.at]⟩

set_option maxRecDepth 100000 in
theorem take_none (p : Addr) (w : World) (c cap s r : Nat) (hp : w.cell? p = some (.chan (some c))) (hc : w.heap[c]? = some (.chan cap #[] false s r false))  :
    Calls Try.prog 9 #[.pointer (some p)] w fun e w' => e = .returned (.tuple #[.string ⟨#[]⟩, .bool false]) ∧ w = w' := by
  refine calls_of_loneTo fun cs => ?_
  have e : Frame.enter Try.prog 9 #[.pointer (some p)] .normal = (base 9).at ⟨#[.pointer (some p), undef, undef, undef, undef, undef, undef, undef, undef, undef, undef, undef, undef, undef, undef, undef], []⟩ [.code (Try.f9.body.getD .skip)] := by
    simp [Frame.enter, Frame.at, Try.func9, base, Try.f9]
  rw [e]
  refine LoneTo.goes (n := 15) ?_
  simp only [Try.f9, Option.getD_some]
  s_c stepG_seq
  s_reg
  s_op
  s_op
  s_c stepG_region_end
  s_c stepG_seq
  s_reg
  s_op
  s_op
  s_op
  s_op
  s_c stepG_region_end
  s_c stepG_seq
  s_reg
  s_stop
  refine LoneTo.step (step_lone_select_default (c := c) (z := .string ⟨#[]⟩) (cap := cap) (s := s) (r := r) (tm := false) (stepG_comm (cases := #[rcase c (.string ⟨#[]⟩)]) (blocking := false) (shape := .select) (w' := w) rfl rfl (by decide) (by simp [go_sem, execOp, rcase, Act.eval])) hc) ?_
  rw [Frame.finish_at]
  walk_nrm
  refine LoneTo.goes (n := 16) ?_
  s_op
  s_op
  s_c stepG_region_end
  s_c stepG_block
  s_cond false
  s_c stepG_seq
  s_reg
  s_op
  s_c stepG_region_end
  s_c stepG_seq
  s_reg
  s_op
  s_op
  s_op
  s_c stepG_region_end
  s_c stepG_ret'
  s_stop
  exact LoneTo.done ⟨.returned (.tuple #[.string ⟨#[]⟩, .bool false]), _, rfl, ⟨rfl, rfl⟩, rfl, rfl, rfl, rfl, _, Try.func9, by simp [results, Try.f9, Frame.at]⟩

end Go.Proofs.Ytfeclopdagbngaa
