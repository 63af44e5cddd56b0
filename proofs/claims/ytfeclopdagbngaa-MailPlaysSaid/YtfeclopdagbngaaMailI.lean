import Derived.Test.YtfeclopdagbngaaMailC
namespace Go.Proofs.Ytfeclopdagbngaa
open Go.RowKit Go.Conc Go.Cov

set_option maxRecDepth 100000 in
theorem put_room_i (p : Addr) (x : Value) (w : World) (c cap s r : Nat) (buf : Array Value) (hp : w.cell? p = some (.chan (some c))) (hc : w.heap[c]? = some (.chan cap buf false s r false)) (hroom : buf.size < cap) :
    Calls Try.prog 18 #[.pointer (some p), x] w fun e w' => e = .returned (.bool true) ∧ w.setChan c cap (buf.push x) false (s + 1) r false = w' := by
  refine calls_of_loneTo fun cs => ?_
  have e : Frame.enter Try.prog 18 #[.pointer (some p), x] .normal = (base 18).at ⟨#[.pointer (some p), x, undef, undef, undef, undef, undef, undef, undef, undef, undef, undef, undef], []⟩ [.code (Try.f18.body.getD .skip)] := by
    simp [Frame.enter, Frame.at, Try.func18, base, Try.f18]
  rw [e]
  refine LoneTo.goes (n := 17) ?_
  simp only [Try.f18, Option.getD_some]
  s_c stepG_seq
  s_reg
  s_op
  s_c stepG_region_end
  s_c stepG_seq
  s_c stepG_seq
  s_reg
  s_op
  s_op
  s_op
  s_op
  s_c stepG_region_end
  s_reg
  s_op
  s_c stepG_region_end
  s_c stepG_seq
  s_reg
  s_stop
  refine LoneTo.step (step_lone_select_send_room (c := c) (v := x) (z' := .int .i64 0) (cap := cap) (buf := buf) (s := s) (r := r) (tm := false) (stepG_comm (cases := #[scase c x (.int .i64 0)]) (blocking := false) (shape := .select) (w' := w) rfl rfl (by decide) (by simp [go_sem, execOp, scase, Act.eval])) hc hroom) ?_
  rw [Frame.finish_at]
  walk_nrm
  refine LoneTo.goes (n := 10) ?_
  s_op
  s_op
  s_c stepG_region_end
  s_c stepG_block
  s_cond true
  s_c stepG_seq
  s_reg
  s_op
  s_c stepG_region_end
  s_c stepG_ret'
  s_stop
  exact LoneTo.done ⟨.returned (.bool true), _, rfl, ⟨rfl, rfl⟩, rfl, rfl, rfl, rfl, _, Try.func18, by simp [results, Try.f18, Frame.at]⟩

set_option maxRecDepth 100000 in
theorem put_full_i (p : Addr) (x : Value) (w : World) (c cap s r : Nat) (buf : Array Value) (hp : w.cell? p = some (.chan (some c))) (hc : w.heap[c]? = some (.chan cap buf false s r false)) (hfull : cap ≤ buf.size) :
    Calls Try.prog 18 #[.pointer (some p), x] w fun e w' => e = .returned (.bool false) ∧ w = w' := by
  refine calls_of_loneTo fun cs => ?_
  have e : Frame.enter Try.prog 18 #[.pointer (some p), x] .normal = (base 18).at ⟨#[.pointer (some p), x, undef, undef, undef, undef, undef, undef, undef, undef, undef, undef, undef], []⟩ [.code (Try.f18.body.getD .skip)] := by
    simp [Frame.enter, Frame.at, Try.func18, base, Try.f18]
  rw [e]
  refine LoneTo.goes (n := 17) ?_
  simp only [Try.f18, Option.getD_some]
  s_c stepG_seq
  s_reg
  s_op
  s_c stepG_region_end
  s_c stepG_seq
  s_c stepG_seq
  s_reg
  s_op
  s_op
  s_op
  s_op
  s_c stepG_region_end
  s_reg
  s_op
  s_c stepG_region_end
  s_c stepG_seq
  s_reg
  s_stop
  refine LoneTo.step (step_lone_select_send_full (c := c) (v := x) (z' := .int .i64 0) (cap := cap) (buf := buf) (s := s) (r := r) (tm := false) (stepG_comm (cases := #[scase c x (.int .i64 0)]) (blocking := false) (shape := .select) (w' := w) rfl rfl (by decide) (by simp [go_sem, execOp, scase, Act.eval])) hc hfull) ?_
  rw [Frame.finish_at]
  walk_nrm
  refine LoneTo.goes (n := 10) ?_
  s_op
  s_op
  s_c stepG_region_end
  s_c stepG_block
  s_cond false
  s_c stepG_seq
  s_reg
  s_op
  s_c stepG_region_end
  s_c stepG_ret'
  s_stop
  exact LoneTo.done ⟨.returned (.bool false), _, rfl, ⟨rfl, rfl⟩, rfl, rfl, rfl, rfl, _, Try.func18, by simp [results, Try.f18, Frame.at]⟩

set_option maxRecDepth 100000 in
theorem take_some_i (p : Addr) (w : World) (c cap s r : Nat) (buf : Array Value) (y : Value) (hp : w.cell? p = some (.chan (some c))) (hc : w.heap[c]? = some (.chan cap buf false s r false)) (hsome : 0 < buf.size) (hy : buf[0] = y) :
    Calls Try.prog 13 #[.pointer (some p)] w fun e w' => e = .returned (.tuple #[y, .bool true]) ∧ w.setChan c cap (buf.extract 1 buf.size) false s (r + 1) false = w' := by
  refine calls_of_loneTo fun cs => ?_
  have e : Frame.enter Try.prog 13 #[.pointer (some p)] .normal = (base 13).at ⟨#[.pointer (some p), undef, undef, undef, undef, undef, undef, undef, undef, undef, undef, undef, undef, undef, undef, undef], []⟩ [.code (Try.f13.body.getD .skip)] := by
    simp [Frame.enter, Frame.at, Try.func13, base, Try.f13]
  rw [e]
  refine LoneTo.goes (n := 15) ?_
  simp only [Try.f13, Option.getD_some]
  s_c stepG_seq
  s_reg
  s_op
  s_op
  s_c stepG_region_end
  s_c stepG_seq
  s_reg
  s_op
  s_op
  s_op
  s_op
  s_c stepG_region_end
  s_c stepG_seq
  s_reg
  s_stop
  refine LoneTo.step (step_lone_select_recv_buf (c := c) (z := .int .i64 0) (cap := cap) (buf := buf) (s := s) (r := r) (tm := false) (stepG_comm (cases := #[rcase c (.int .i64 0)]) (blocking := false) (shape := .select) (w' := w) rfl rfl (by decide) (by simp [go_sem, execOp, rcase, Act.eval])) hc hsome) ?_
  rw [Frame.finish_at]
  walk_nrm
  refine LoneTo.goes (n := 17) ?_
  s_op
  s_op
  s_c stepG_region_end
  s_c stepG_block
  s_cond true
  s_c stepG_seq
  s_reg
  s_op
  s_op
  s_c stepG_region_end
  s_c stepG_seq
  s_reg
  s_op
  s_op
  s_op
  s_c stepG_region_end
  s_c stepG_ret'
  s_stop
  exact LoneTo.done ⟨.returned (.tuple #[y, .bool true]), _, rfl, ⟨rfl, rfl⟩, rfl, rfl, rfl, rfl, _, Try.func13, by simp [results, Try.f13, Frame.at]⟩

set_option maxRecDepth 100000 in
theorem take_none_i (p : Addr) (w : World) (c cap s r : Nat) (hp : w.cell? p = some (.chan (some c))) (hc : w.heap[c]? = some (.chan cap #[] false s r false))  :
    Calls Try.prog 13 #[.pointer (some p)] w fun e w' => e = .returned (.tuple #[.int .i64 0, .bool false]) ∧ w = w' := by
  refine calls_of_loneTo fun cs => ?_
  have e : Frame.enter Try.prog 13 #[.pointer (some p)] .normal = (base 13).at ⟨#[.pointer (some p), undef, undef, undef, undef, undef, undef, undef, undef, undef, undef, undef, undef, undef, undef, undef], []⟩ [.code (Try.f13.body.getD .skip)] := by
    simp [Frame.enter, Frame.at, Try.func13, base, Try.f13]
  rw [e]
  refine LoneTo.goes (n := 15) ?_
  simp only [Try.f13, Option.getD_some]
  s_c stepG_seq
  s_reg
  s_op
  s_op
  s_c stepG_region_end
  s_c stepG_seq
  s_reg
  s_op
  s_op
  s_op
  s_op
  s_c stepG_region_end
  s_c stepG_seq
  s_reg
  s_stop
  refine LoneTo.step (step_lone_select_default (c := c) (z := .int .i64 0) (cap := cap) (s := s) (r := r) (tm := false) (stepG_comm (cases := #[rcase c (.int .i64 0)]) (blocking := false) (shape := .select) (w' := w) rfl rfl (by decide) (by simp [go_sem, execOp, rcase, Act.eval])) hc) ?_
  rw [Frame.finish_at]
  walk_nrm
  refine LoneTo.goes (n := 16) ?_
  s_op
  s_op
  s_c stepG_region_end
  s_c stepG_block
  s_cond false
  s_c stepG_seq
  s_reg
  s_op
  s_c stepG_region_end
  s_c stepG_seq
  s_reg
  s_op
  s_op
  s_op
  s_c stepG_region_end
  s_c stepG_ret'
  s_stop
  exact LoneTo.done ⟨.returned (.tuple #[.int .i64 0, .bool false]), _, rfl, ⟨rfl, rfl⟩, rfl, rfl, rfl, rfl, _, Try.func13, by simp [results, Try.f13, Frame.at]⟩

theorem put_yes_i {w : World} {b c cap : Nat} {l : List Value} (h : Box w b c cap 57 l) (x : Value) (hroom : l.length < cap) :
    Calls Try.prog 18 #[.pointer (some ⟨b, 0, none⟩), x] w fun e w' => e = .returned (.bool true) ∧ Box w' b c cap 57 (l ++ [x]) ∧ w.grownBy w' (some c) := by
  have hbox := h
  obtain ⟨h1, s, r, h2⟩ := h
  refine (put_room_i _ x w c cap s r _ hbox.cell h2 (by simpa using hroom)).mono fun e w' ⟨he, hw⟩ => ⟨he, ?_, ?_⟩
  · rw [← hw, List.push_toArray]; exact hbox.set _ _ _
  · rw [← hw]; exact setChan_grown _ _ _ _ _ _ _ _
theorem put_no_i {w : World} {b c cap : Nat} {l : List Value} (h : Box w b c cap 57 l) (x : Value) (hfull : cap ≤ l.length) :
    Calls Try.prog 18 #[.pointer (some ⟨b, 0, none⟩), x] w fun e w' => e = .returned (.bool false) ∧ w = w' := by
  have hbox := h
  obtain ⟨h1, s, r, h2⟩ := h
  exact put_full_i _ x w c cap s r _ hbox.cell h2 (by simpa using hfull)
theorem take_yes_i {w : World} {b c cap : Nat} {x : Value} {l : List Value} (h : Box w b c cap 57 (x :: l)) :
    Calls Try.prog 13 #[.pointer (some ⟨b, 0, none⟩)] w fun e w' => e = .returned (.tuple #[x, .bool true]) ∧ Box w' b c cap 57 l ∧ w.grownBy w' (some c) := by
  have hbox := h
  obtain ⟨h1, s, r, h2⟩ := h
  refine (take_some_i _ w c cap s r _ x hbox.cell h2 (by simp) (by simp)).mono fun e w' ⟨he, hw⟩ => ⟨he, ?_, ?_⟩
  · rw [← hw]
    have : (x :: l).toArray.extract 1 (x :: l).toArray.size = l.toArray := by simp
    rw [this]; exact hbox.set _ _ _
  · rw [← hw]; exact setChan_grown _ _ _ _ _ _ _ _
theorem take_no_i {w : World} {b c cap : Nat} (h : Box w b c cap 57 []) :
    Calls Try.prog 13 #[.pointer (some ⟨b, 0, none⟩)] w fun e w' => e = .returned (.tuple #[.int .i64 0, .bool false]) ∧ w = w' := by
  have hbox := h
  obtain ⟨h1, s, r, h2⟩ := h
  exact take_none_i _ w c cap s r hbox.cell h2
theorem info2 : (Try.prog.info? 2).map (fun i => (i.zero, i.size, i.bytes)) = some (some (.int .i64 0), 1, 8) := by kernel_rfl
theorem bytes2 : ∃ i, Try.prog.info? 2 = some i ∧ i.bytes = 8 := by
  have h : (Try.prog.info? 2).map (·.bytes) = some 8 := by kernel_rfl
  obtain ⟨i, hi, hb⟩ := Option.map_eq_some_iff.1 h
  exact ⟨i, hi, hb⟩
theorem mkc_i (n : Nat) (h : n ≤ 1024) (w : World) : (Instr.makeChan 55 (.int .i64 n)).run Try.prog w = .ok (.chan (some w.heap.size)) (w.alloc (.chan n #[] false 0 0 false)) := by
  obtain ⟨i, hi, hb⟩ := bytes2
  exact run_makeChan (P := Try.prog) (w := w) Try.underlying55 hi .i64 n (by omega) (by rw [hb]; omega)
theorem new_ok_i (m : Int) (h1 : 1 ≤ m) (h2 : m ≤ 1024) (w : World) : Calls Try.prog 11 #[.int .i64 m] w fun e w' => e = .returned (.pointer (some ⟨w.heap.size + 1, 0, none⟩)) ∧
    Box w' (w.heap.size + 1) w.heap.size m.toNat 57 [] ∧ Below w.heap.size w w' := by
  obtain ⟨n, rfl⟩ := Int.eq_ofNat_of_zero_le (show 0 ≤ m by omega)
  have hm := mkc_i n (by omega)
  go_enter Try.func11, Try.ntmps11
  go_wp2
  go_ret
  refine ⟨rfl, ⟨?_, 0, 0, ?_⟩, ((Below.refl _ _).alloc (Nat.le_refl _) _).alloc (by simp) _⟩
  · have := heap_alloc_new (w.alloc (.chan n #[] false 0 0 false)) (.cells #[.chan (some w.heap.size)] 57)
    simpa using this
  · rw [Below.heap_alloc (w.alloc (.chan n #[] false 0 0 false)) _ _ (by simp)]
    simpa using heap_alloc_new w (.chan n #[] false 0 0 false)
theorem new_no_i (m : Int) (h : m < 1 ∨ 1024 < m) (w : World) : Calls Try.prog 11 #[.int .i64 m] w fun e w' => e = .returned (.pointer none) ∧ w = w' := by
  rcases h with h | h
  · go_enter Try.func11, Try.ntmps11
    go_wp2
    go_ret
    exact ⟨rfl, rfl⟩
  · have h' : ¬ m < 1 := by omega
    go_enter Try.func11, Try.ntmps11
    go_wp2
    go_ret
    exact ⟨rfl, rfl⟩
theorem len_any_i {w : World} {b c cap : Nat} {l : List Value} (h : Box w b c cap 57 l) : Calls Try.prog 20 #[.pointer (some ⟨b, 0, none⟩)] w fun e w' => e = .returned (.int .i64 l.length) ∧ w = w' := by
  have hc := h.cell
  obtain ⟨h1, s, r, h2⟩ := h
  have hlen : (Builtin.len_ #[55] 3 #[.chan (some c)]).run Try.prog w = .ok (.int .i64 l.length) w := by
    simp [Builtin.len_, run_underlying Try.underlying55, getObj, h2, goInt, Sem.run]
  go_enter Try.func20, Try.ntmps20
  go_wp2
  go_ret
  exact ⟨rfl, rfl⟩
def iv (l : List Int) : List Value := l.map (Value.int .i64)
theorem iv_one (l : List Int) : ∀ u ∈ iv l, u.oneCell' = true := by
  intro u hu
  obtain ⟨s, _, rfl⟩ := List.mem_map.1 hu
  rfl
set_option maxHeartbeats 400000 in
theorem all_any_i {w : World} {b c cap : Nat} {l : List Int} (h : Box w b c cap 57 (iv l)) (hl : l.length ≤ 1024) :
    Calls Try.prog 15 #[.pointer (some ⟨b, 0, none⟩)] w fun e w' => ∃ v, e = .returned v ∧ w'.ownsRow w.heap.size 2 1 v l.length (iv l) ∧ Box w' b c cap 57 [] ∧ w.grownBy w' (some c) := by
  have hlt := h.lt
  go_enter Try.func15, Try.ntmps15
  go_wp2
  go_loopg [3] l.length (fun k v wr => ∃ done left, done ++ left = l ∧ left.length = k ∧ wr.ownsRow w.heap.size 2 1 v done.length (iv done) ∧ Box wr b c cap 57 (iv left) ∧ w.grownBy wr (some c))
  case atStart => exact ⟨[], l, rfl, rfl, World.ownsRow_nil _ _ _ _, h, World.grownBy.refl _ _⟩
  case round =>
    obtain ⟨done, left, hl1, hl2, hown, hbox, hg⟩ := hrel
    cases left with
    | nil =>
      go_wp2_with (go_at_call 13; refine (take_no_i hbox).mono ?_; rintro e w' ⟨rfl, rfl⟩)
      go_ret
      refine ⟨_, rfl, ?_, hbox, hg⟩
      simp at hl1
      subst hl1
      exact hown
    | cons x left =>
      have hll : done.length + (left.length + 1) = l.length := by rw [← hl1]; simp
      have hl2' : left.length < gk := by rw [← hl2]; simp
      have hown1 : ∀ w1, wr.grownBy w1 (some c) → w1.ownsRow w.heap.size 2 1 u3 done.length (iv done) := fun w1 hg1 => hown.kept hg1 (.inr (fun hh => own_ne hown hlt.2 hh.symm))
      have H1 := hid hl1
      clear hl1 hl2
      go_wp2_with (first
        | (go_at_call 13; refine (take_yes_i hbox).mono ?_; rintro e w1 ⟨rfl, hbox1, hg1⟩)
        | (at_builtin; refine wpList_app rfl _ _ 41 rfl w.heap.size 2 Try.underlying41 info2 rfl (by decide) _ _ _ rfl ((hown1 _ hg1).alloc _) _ 1 1 [.int .i64 x] rfl rfl (rd_box _ _ _) (by simp [Value.oneCell']) (by omega) (by omega) (by have := hg.size; have := hg1.size; simp; omega) ?_; intro v2 w2 hown2 hg2 hat2))
      go_roundg left.length
      case rel =>
        have g2 : w1.grownBy w2 u3.ownBlock := grown_after ((World.grownBy.refl _ _)) (grown_after (World.grownBy_alloc w1 _ u3.ownBlock) hg2 (fun _ _ => .inr rfl)) (fun _ _ => .inr rfl)
        refine ⟨done ++ [x], left, by rw [← H1.out]; simp, rfl, by simpa [iv] using hown2, hbox1.kept g2 (own_ne hown hlt.1) (own_ne hown hlt.2), ?_⟩
        refine grown_after (grown_after hg hg1 (fun _ _ => .inr rfl)) g2 fun j hj => .inl ?_
        exact (own_lt hown hj).1
      case measure => exact hl2'
end Go.Proofs.Ytfeclopdagbngaa
