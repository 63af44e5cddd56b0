import Derived.Test.YtoceipdkmafagaaOpO
import Derived.Test.YtoceipdkmafagaaPlain1
/-! op: what is too much; an operation and a reply as parameters -/
namespace Go.Proofs.Ytoceipdkmafagaa
open Go.RowKit Go.Cov Go.ChangeShapes Go.WideShapes Go.Deep
set_option maxRecDepth 100000 in
set_option maxHeartbeats 6400000 in
theorem great_any (o : Oa) (w : World) : Calls Try.prog 10 #[o.val] w fun e w' => ∃ b : Bool, e = .returned (.bool b) ∧ Below w.heap.size w w' := by
  have b0 := below_alloc w (.cells o.cells.toArray 25)
  have s1 := size_str o.n
  have s2 := size_str o.f
  unfold Oa.val Oa.cells at *
  by_cases c_s : 100000 < (o.s.length : Int)
  case pos =>
    have j_s : decide (100000 < (o.s.length : Int)) = true := decide_eq_true c_s
    go_enter Try.func10, Try.ntmps10
    go_wp2_with fail
    go_ret
    first | exact ⟨_, rfl, b0⟩ | exact ⟨Or.inl rfl, b0⟩ | exact ⟨Or.inr rfl, b0⟩ | (refine ⟨?_, b0⟩; simp; omega)
  have j_s : decide (100000 < (o.s.length : Int)) = false := decide_eq_false c_s
  by_cases c_a : 1000 < (o.a.length : Int)
  case pos =>
    have j_a : decide (1000 < (o.a.length : Int)) = true := decide_eq_true c_a
    go_enter Try.func10, Try.ntmps10
    go_wp2_with fail
    go_ret
    first | exact ⟨_, rfl, b0⟩ | exact ⟨Or.inl rfl, b0⟩ | exact ⟨Or.inr rfl, b0⟩ | (refine ⟨?_, b0⟩; simp; omega)
  have j_a : decide (1000 < (o.a.length : Int)) = false := decide_eq_false c_a
  by_cases c_n : 100000 < (o.n.length : Int)
  case pos =>
    have j_n : decide (100000 < (o.n.length : Int)) = true := decide_eq_true c_n
    go_enter Try.func10, Try.ntmps10
    go_wp2_with fail
    go_ret
    first | exact ⟨_, rfl, b0⟩ | exact ⟨Or.inl rfl, b0⟩ | exact ⟨Or.inr rfl, b0⟩ | (refine ⟨?_, b0⟩; simp; omega)
  have j_n : decide (100000 < (o.n.length : Int)) = false := decide_eq_false c_n
  by_cases c_f : 100000 < (o.f.length : Int)
  case pos =>
    have j_f : decide (100000 < (o.f.length : Int)) = true := decide_eq_true c_f
    go_enter Try.func10, Try.ntmps10
    go_wp2_with fail
    go_ret
    first | exact ⟨_, rfl, b0⟩ | exact ⟨Or.inl rfl, b0⟩ | exact ⟨Or.inr rfl, b0⟩ | (refine ⟨?_, b0⟩; simp; omega)
  have j_f : decide (100000 < (o.f.length : Int)) = false := decide_eq_false c_f
  go_enter Try.func10, Try.ntmps10
  go_wp2_with fail
  all_goals (go_ret; first | exact ⟨_, rfl, b0⟩ | exact ⟨Or.inl rfl, b0⟩ | exact ⟨Or.inr rfl, b0⟩ | (refine ⟨?_, b0⟩; simp; omega))
theorem str_back (a : ByteArray) : ∃ l, a = str l := ⟨a.data.toList, by simp [str]⟩
section
variable {H : Type} {enc : TypeId × Value → H} {W : World} {base : Nat} {spare : Nat → Bool} {held : Bool}
theorem inv_en : ∀ n cs x, DataW.trod enc Try.prog W base spare held n 29 cs = some x → ∃ a : En, cs = enEl.cells a ∧ ((∀ p ∈ enEl.cons a, Sl W p.1 p.2) ∧ (Lit.int .i64 a.c).wf = true ∧ (Lit.int .i64 a.r).wf = true) :=
  inv_entry Try.underlying29 (by kernel_rfl) ⟨rfl, rfl, rfl⟩ Try.underlying27 Try.underlying2 Try.underlying22 ⟨by kernel_rfl, by kernel_rfl, by kernel_rfl⟩ Try.underlying5 (by kernel_rfl)
theorem en_sl {a : En} (h : ∀ p ∈ enEl.cons a, Sl W p.1 p.2) : Rd W a.A (a.op.map byt) ∧ (a.op.length ≤ a.cap ∧ a.cap ≤ maxLen) := by
  obtain ⟨A', c, he, h1, h2, hr⟩ := h (a.val, a.op) (by simp [enEl])
  unfold En.val at he
  injection he with e1 e2 e3
  rw [e1, e3]; exact ⟨hr, h1, h2⟩
set_option maxRecDepth 100000 in
/-- an operation as a parameter -/
theorem open_opn {r : Reach} {b0 : Nat} {v : Value} {d : DataW H} {p : List MemPlace} (hval : Value.okWide Try.prog W r b0 25 v) (h : DataW.Trod enc Try.prog W base spare held 25 v d p) :
    ∃ o : Oa, v = o.val ∧ OaOwn W o ∧ intO o.data := by
  obtain ⟨cs, rfl, hcs⟩ := okWide_struct Try.underlying25 hval
  obtain ⟨fuel, hf⟩ := h
  obtain ⟨m, hlen, hf⟩ := inv_struct Try.underlying25 hf
  have hct : Try.prog.cellsOf 25 = 7 := by kernel_rfl
  rw [hct, show (Value.agg cs).cells.toList = cs.toList from rfl] at hlen
  obtain ⟨y0, k0⟩ := hf 0 _ rfl
  obtain ⟨y1, k1⟩ := hf 1 _ rfl
  obtain ⟨y2, k2⟩ := hf 2 _ rfl
  obtain ⟨y3, k3⟩ := hf 3 _ rfl
  obtain ⟨y4, k4⟩ := hf 4 _ rfl
  obtain ⟨y5, k5⟩ := hf 5 _ rfl
  obtain ⟨y6, k6⟩ := hf 6 _ rfl
  replace k0 : DataW.trod enc Try.prog W base spare held m 3 ((cs.toList.drop 0).take (Try.prog.cellsOf 3)) = some y0 := k0
  replace k1 : DataW.trod enc Try.prog W base spare held m 9 ((cs.toList.drop 1).take (Try.prog.cellsOf 9)) = some y1 := k1
  replace k2 : DataW.trod enc Try.prog W base spare held m 22 ((cs.toList.drop 2).take (Try.prog.cellsOf 22)) = some y2 := k2
  replace k3 : DataW.trod enc Try.prog W base spare held m 9 ((cs.toList.drop 3).take (Try.prog.cellsOf 9)) = some y3 := k3
  replace k4 : DataW.trod enc Try.prog W base spare held m 23 ((cs.toList.drop 4).take (Try.prog.cellsOf 23)) = some y4 := k4
  replace k5 : DataW.trod enc Try.prog W base spare held m 2 ((cs.toList.drop 5).take (Try.prog.cellsOf 2)) = some y5 := k5
  replace k6 : DataW.trod enc Try.prog W base spare held m 22 ((cs.toList.drop 6).take (Try.prog.cellsOf 22)) = some y6 := k6
  obtain ⟨u0, u1, u2, u3, u4, u5, u6, hu⟩ : ∃ u0 u1 u2 u3 u4 u5 u6, cs.toList = [u0, u1, u2, u3, u4, u5, u6] := by
    match h : cs.toList, hlen with
    | [u0, u1, u2, u3, u4, u5, u6], _ => exact ⟨_, _, _, _, _, _, _, rfl⟩
  have ci : Try.prog.cellsOf 3 = 1 := by kernel_rfl
  have cl : Try.prog.cellsOf 2 = 1 := by kernel_rfl
  have cS : Try.prog.cellsOf 9 = 1 := by kernel_rfl
  have cB : Try.prog.cellsOf 22 = 1 := by kernel_rfl
  have cV : Try.prog.cellsOf 23 = 1 := by kernel_rfl
  rw [hu] at k0 k1 k2 k3 k4 k5 k6
  rw [ci] at k0
  rw [cS] at k1 k3
  rw [cB] at k2 k6
  rw [cV] at k4
  rw [cl] at k5
  obtain ⟨a0, e0, s0⟩ := inv_int Try.underlying3 _ _ _ k0
  obtain ⟨a1, e1, s1⟩ := inv_string Try.underlying9 _ _ _ k1
  obtain ⟨a2, e2, s2⟩ := inv_slice Try.underlying22 Try.underlying5 (by kernel_rfl) _ _ _ k2
  obtain ⟨a3, e3, s3⟩ := inv_string Try.underlying9 _ _ _ k3
  obtain ⟨A4, c4, xs, e4, h3, h4, _, h5, h6, _⟩ := open_sl (sz := 3) enEl.cells _ Try.underlying23 (by kernel_rfl) enEl.len inv_en k4
  obtain ⟨a5, e5, s5⟩ := inv_int Try.underlying2 _ _ _ k5
  obtain ⟨a6, e6, s6⟩ := inv_slice Try.underlying22 Try.underlying5 (by kernel_rfl) _ _ _ k6
  obtain ⟨A2, c2, q2, hc2, hm2, r2⟩ := s2
  obtain ⟨A6, c6, q6, hc6, hm6, r6⟩ := s6
  obtain ⟨n1, rfl⟩ := str_back a1
  obtain ⟨n3, rfl⟩ := str_back a3
  have e0 : u0 = .int .i64 a0 := by simpa [one] using e0
  have e1 : u1 = .string (str n1) := by simpa [one] using e1
  have e2 : u2 = .slice A2 a2.2.length c2 := by rw [← q2]; simpa [fst1] using e2
  have e3 : u3 = .string (str n3) := by simpa [one] using e3
  have e4 : u4 = .slice A4 xs.length c4 := by simpa using e4
  have e5 : u5 = .int .i64 a5 := by simpa [one] using e5
  have e6 : u6 = .slice A6 a6.2.length c6 := by rw [← q6]; simpa [fst1] using e6
  refine ⟨⟨a0, n1, A2, c2, a2.2, n3, A4, c4, xs, a5, A6, c6, a6.2⟩, ?_, ⟨⟨r2, ⟨h5, fun a ha => (h6 a ha).1⟩, r6, Nat.le_trans h3 h4⟩, ⟨hc2, hm2⟩, ⟨hc6, hm6⟩⟩, wf64 s5, ?_⟩
  · have : cs = #[u0, u1, u2, u3, u4, u5, u6] := by rw [← Array.toArray_toList (xs := cs), hu]
    rw [this, e0, e1, e2, e3, e4, e5, e6]; rfl
  · intro x hx
    obtain ⟨a, ha, rfl⟩ := List.mem_map.1 hx
    exact wf64 (h6 a ha).2.2
set_option maxRecDepth 100000 in
/-- a reply as a parameter -/
theorem open_reply {r : Reach} {b0 : Nat} {v : Value} {d : DataW H} {p : List MemPlace} (hval : Value.okWide Try.prog W r b0 34 v) (h : DataW.Trod enc Try.prog W base spare held 34 v d p) :
    ∃ o : Ra, v = o.val ∧ RaRd W o ∧ intR o.data := by
  obtain ⟨cs, rfl, hcs⟩ := okWide_struct Try.underlying34 hval
  obtain ⟨fuel, hf⟩ := h
  obtain ⟨m, hlen, hf⟩ := inv_struct Try.underlying34 hf
  have hct : Try.prog.cellsOf 34 = 9 := by kernel_rfl
  rw [hct, show (Value.agg cs).cells.toList = cs.toList from rfl] at hlen
  obtain ⟨y0, k0⟩ := hf 0 _ rfl
  obtain ⟨y1, k1⟩ := hf 1 _ rfl
  obtain ⟨y2, k2⟩ := hf 2 _ rfl
  obtain ⟨y3, k3⟩ := hf 3 _ rfl
  obtain ⟨y4, k4⟩ := hf 4 _ rfl
  replace k0 : DataW.trod enc Try.prog W base spare held m 26 ((cs.toList.drop 0).take (Try.prog.cellsOf 26)) = some y0 := k0
  replace k1 : DataW.trod enc Try.prog W base spare held m 3 ((cs.toList.drop 1).take (Try.prog.cellsOf 3)) = some y1 := k1
  replace k2 : DataW.trod enc Try.prog W base spare held m 32 ((cs.toList.drop 2).take (Try.prog.cellsOf 32)) = some y2 := k2
  replace k3 : DataW.trod enc Try.prog W base spare held m 4 ((cs.toList.drop 7).take (Try.prog.cellsOf 4)) = some y3 := k3
  replace k4 : DataW.trod enc Try.prog W base spare held m 22 ((cs.toList.drop 8).take (Try.prog.cellsOf 22)) = some y4 := k4
  obtain ⟨u0, u1, u2, u3, u4, u5, u6, u7, u8, hu⟩ : ∃ u0 u1 u2 u3 u4 u5 u6 u7 u8, cs.toList = [u0, u1, u2, u3, u4, u5, u6, u7, u8] := by
    match h : cs.toList, hlen with
    | [u0, u1, u2, u3, u4, u5, u6, u7, u8], _ => exact ⟨_, _, _, _, _, _, _, _, _, rfl⟩
  have cE : Try.prog.cellsOf 26 = 1 := by kernel_rfl
  have ci : Try.prog.cellsOf 3 = 1 := by kernel_rfl
  have cl : Try.prog.cellsOf 2 = 1 := by kernel_rfl
  have cO : Try.prog.cellsOf 4 = 1 := by kernel_rfl
  have cB : Try.prog.cellsOf 22 = 1 := by kernel_rfl
  have cT : Try.prog.cellsOf 30 = 1 := by kernel_rfl
  have cV : Try.prog.cellsOf 29 = 3 := by kernel_rfl
  have cU : Try.prog.cellsOf 32 = 5 := by kernel_rfl
  rw [hu] at k0 k1 k2 k3 k4
  rw [cE] at k0
  rw [ci] at k1
  rw [cU] at k2
  rw [cO] at k3
  rw [cB] at k4
  obtain ⟨m2, _, hf2⟩ := inv_struct Try.underlying32 k2
  obtain ⟨z0, l0⟩ := hf2 0 _ rfl
  obtain ⟨z1, l1⟩ := hf2 1 _ rfl
  obtain ⟨z2, l2⟩ := hf2 2 _ rfl
  replace l0 : DataW.trod enc Try.prog W base spare held m2 29 (([u2, u3, u4, u5, u6].drop 0).take (Try.prog.cellsOf 29)) = some z0 := l0
  replace l1 : DataW.trod enc Try.prog W base spare held m2 30 (([u2, u3, u4, u5, u6].drop 3).take (Try.prog.cellsOf 30)) = some z1 := l1
  replace l2 : DataW.trod enc Try.prog W base spare held m2 2 (([u2, u3, u4, u5, u6].drop 4).take (Try.prog.cellsOf 2)) = some z2 := l2
  rw [cV] at l0
  rw [cT] at l1
  rw [cl] at l2
  obtain ⟨x, ex, sx, sx1, sx2⟩ := inv_en _ _ _ l0
  obtain ⟨a0, e0, s0⟩ := inv_int Try.underlying26 _ _ _ k0
  obtain ⟨a1, e1, s1⟩ := inv_int Try.underlying3 _ _ _ k1
  obtain ⟨a5, e5, s5⟩ := inv_int Try.underlying30 _ _ _ l1
  obtain ⟨a6, e6, s6⟩ := inv_int Try.underlying2 _ _ _ l2
  obtain ⟨a7, e7, _⟩ := inv_bool Try.underlying4 _ _ _ k3
  obtain ⟨a8, e8, s8⟩ := inv_slice Try.underlying22 Try.underlying5 (by kernel_rfl) _ _ _ k4
  obtain ⟨A8, c8, q8, hc8, hm8, r8⟩ := s8
  have e0 : u0 = .int .i64 a0 := by simpa [one] using e0
  have e1 : u1 = .int .i64 a1 := by simpa [one] using e1
  have ex : [u2, u3, u4] = enEl.cells x := by simpa using ex
  have e5 : u5 = .int .i64 a5 := by simpa [one] using e5
  have e6 : u6 = .int .i64 a6 := by simpa [one] using e6
  have e7 : u7 = .bool a7 := by simpa [one] using e7
  have e8 : u8 = .slice A8 a8.2.length c8 := by rw [← q8]; simpa [fst1] using e8
  unfold enEl at ex
  dsimp only at ex
  injection ex with e2 ex
  injection ex with e3 ex
  injection ex with e4 _
  refine ⟨⟨a0, a1, x, a5, a6, a7, A8, c8, a8.2⟩, ?_, ⟨(en_sl sx).1, r8, (en_sl sx).2, ⟨hc8, hm8⟩⟩, wf64 s0, wf64 s1, wf64 sx2, wf64 s5, wf64 s6⟩
  have : cs = #[u0, u1, u2, u3, u4, u5, u6, u7, u8] := by rw [← Array.toArray_toList (xs := cs), hu]
  rw [this, e0, e1, e2, e3, e4, e5, e6, e7, e8]; rfl
end
end Go.Proofs.Ytoceipdkmafagaa
