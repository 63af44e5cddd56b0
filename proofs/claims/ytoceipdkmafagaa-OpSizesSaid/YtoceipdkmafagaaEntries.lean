/-
  Lemmas of this claim's own: slices of entries of a log. Over any program.
-/
import Derived.Test.YtoceipdkmafagaaOpen
import Derived.Test.YtoceipdkmafagaaApp2
import Derived.Test.YtoceipdkmafagaaPairs
import Derived.ArgAppend
namespace Go.Cov
open Go.RowKit Go.ChangeShapes Go.WideShapes Go.Deep
structure En where
  c : Int
  r : Int
  A : Option Addr
  cap : Nat
  op : List UInt8
deriving Inhabited
def En.val (a : En) : Value := .slice a.A a.op.length a.cap
def En.agg (a : En) : Value := .agg #[.int .i64 a.c, .int .i64 a.r, .slice a.A a.op.length a.cap]
abbrev ED := Int × Int × List UInt8
def En.data (a : En) : ED := (a.c, a.r, a.op)
def enEl : El En where
  sz := 3
  cells := fun a => [.int .i64 a.c, .int .i64 a.r, a.val]
  cons := fun a => [(a.val, a.op)]
  len := fun _ => rfl
  one := fun a u hu => by
    rcases List.mem_cons.1 hu with rfl | hu
    · rfl
    · rcases List.mem_cons.1 hu with rfl | hu
      · rfl
      · rw [List.mem_singleton.1 hu]; rfl
  pos := by decide
theorem en_at {w : World} {A : Option Addr} {xs : List En} (h : Els enEl w A xs) (i : Nat) (hi : i < xs.length) :
    ∃ ad, A = some ad ∧ w.cell? (ad.add (i * 3)) = some (.int .i64 xs[i].c) ∧ w.cell? ⟨(ad.add (i * 3)).block, (ad.add (i * 3)).off + 1, none⟩ = some (.int .i64 xs[i].r) ∧ w.cell? ⟨(ad.add (i * 3)).block, (ad.add (i * 3)).off + 2, none⟩ = some (.slice xs[i].A xs[i].op.length xs[i].cap) ∧ Rd w xs[i].A (xs[i].op.map byt) := by
  obtain ⟨ad, hA, hc, hp⟩ := h.at' i hi
  refine ⟨ad, hA, ?_, hc 1 _ rfl, hc 2 _ rfl, ?_⟩
  · have := hc 0 _ rfl
    rwa [add_zero'] at this
  · obtain ⟨A', c, he, _, _, hr⟩ := hp (xs[i].val, xs[i].op) (by simp [enEl])
    unfold En.val at he
    injection he with h1 h2 h3
    rw [h1]; exact hr
theorem rd_three {w : World} {b : Nat} {x y z : Value} (h0 : w.cell? ⟨b, 0, none⟩ = some x) (h1 : w.cell? ⟨b, 1, none⟩ = some y) (h2 : w.cell? ⟨b, 2, none⟩ = some z) : Rd w (some ⟨b, 0, none⟩) [x, y, z] := by
  intro j u hj
  refine ⟨_, rfl, ?_⟩
  rw [add_none]
  rcases j with _ | _ | _ | j
  · cases hj; exact h0
  · cases hj; exact h1
  · cases hj; exact h2
  · simp at hj
/-- a variable of three cells, and of two -/
def Var3 (w : World) (b : Nat) (x y z : Value) : Prop := w.cell? ⟨b, 0, none⟩ = some x ∧ w.cell? ⟨b, 1, none⟩ = some y ∧ w.cell? ⟨b, 2, none⟩ = some z ∧ w.frozen? ⟨b, 0, none⟩ = false ∧ w.frozen? ⟨b, 1, none⟩ = false ∧ w.frozen? ⟨b, 2, none⟩ = false ∧ b < w.heap.size
def Var2 (w : World) (b : Nat) (x y : Value) : Prop := w.cell? ⟨b, 0, none⟩ = some x ∧ w.cell? ⟨b, 1, none⟩ = some y ∧ w.frozen? ⟨b, 0, none⟩ = false ∧ w.frozen? ⟨b, 1, none⟩ = false ∧ b < w.heap.size
theorem Var3.new (w : World) (x y z : Value) (t : TypeId) : Var3 (w.alloc (.cells #[x, y, z] t)) w.heap.size x y z :=
  ⟨box_cell w #[x, y, z] t 0 _ rfl, box_cell w #[x, y, z] t 1 _ rfl, box_cell w #[x, y, z] t 2 _ rfl, World.frozen?_alloc_new (w := w) _ t 0, World.frozen?_alloc_new (w := w) _ t 1, World.frozen?_alloc_new (w := w) _ t 2, by simp⟩
theorem Var2.new (w : World) (x y : Value) (t : TypeId) : Var2 (w.alloc (.cells #[x, y] t)) w.heap.size x y :=
  ⟨box_cell w #[x, y] t 0 _ rfl, box_cell w #[x, y] t 1 _ rfl, World.frozen?_alloc_new (w := w) _ t 0, World.frozen?_alloc_new (w := w) _ t 1, by simp⟩
theorem Var3.on {w w' : World} {b : Nat} {x y z : Value} (h : Var3 w b x y z) (hb : Below w.heap.size w w') : Var3 w' b x y z := by
  obtain ⟨h0, h1, h2, f0, f1, f2, hz⟩ := h
  exact ⟨cell_on hb h0, cell_on hb h1, cell_on hb h2, froz_on hb hz f0, froz_on hb hz f1, froz_on hb hz f2, Nat.lt_of_lt_of_le hz hb.size⟩
theorem Var2.on {w w' : World} {b : Nat} {x y : Value} (h : Var2 w b x y) (hb : Below w.heap.size w w') : Var2 w' b x y := by
  obtain ⟨h0, h1, f0, f1, hz⟩ := h
  exact ⟨cell_on hb h0, cell_on hb h1, froz_on hb hz f0, froz_on hb hz f1, Nat.lt_of_lt_of_le hz hb.size⟩
theorem set2_cells {w : World} {b : Nat} {x0 x1 : Value} (h0 : w.cell? ⟨b, 0, none⟩ = some x0) (h1 : w.cell? ⟨b, 1, none⟩ = some x1) (y0 y1 : Value) :
    ((w.setCell ⟨b, 0, none⟩ y0).setCell ⟨b, 1, none⟩ y1).cell? ⟨b, 0, none⟩ = some y0 ∧ ((w.setCell ⟨b, 0, none⟩ y0).setCell ⟨b, 1, none⟩ y1).cell? ⟨b, 1, none⟩ = some y1 := by
  refine ⟨?_, ?_⟩
  · rw [World.cell?_setCell_other _ _ _ _ (by simp)]
    exact World.cell?_setCell_same' _ _ _ (by rw [h0]; rfl)
  · exact World.cell?_setCell_same' _ _ _ (by rw [World.cell?_setCell_other _ _ _ _ (by simp), h1]; rfl)
section
variable {H : Type} {enc : TypeId × Value → H} {P : Program} {W : World} {base : Nat} {spare : Nat → Bool} {held : Bool}
theorem inv_entry {t be : TypeId} {f0 f1 f2 : Field} (ht : P.underlying t = some (.struct #[f0, f1, f2])) (hct : P.cellsOf t = 3) (ho : f0.offset = 0 ∧ f1.offset = 1 ∧ f2.offset = 2) (h0 : P.underlying f0.type = some (.int .i64)) (h1 : P.underlying f1.type = some (.int .i64)) (h2 : P.underlying f2.type = some (.slice be))
    (hc : P.cellsOf f0.type = 1 ∧ P.cellsOf f1.type = 1 ∧ P.cellsOf f2.type = 1) (hb : P.underlying be = some (.int .u8)) (hcb : P.cellsOf be = 1) :
    ∀ n cs x, DataW.trod enc P W base spare held n t cs = some x → ∃ a : En, cs = enEl.cells a ∧ ((∀ p ∈ enEl.cons a, Sl W p.1 p.2) ∧ (Lit.int .i64 a.c).wf = true ∧ (Lit.int .i64 a.r).wf = true) := by
  intro n cs x h
  obtain ⟨m, hl, hf⟩ := inv_struct ht h
  rw [hct] at hl
  obtain ⟨y0, g0⟩ := hf 0 f0 rfl
  obtain ⟨y1, g1⟩ := hf 1 f1 rfl
  obtain ⟨y2, g2⟩ := hf 2 f2 rfl
  match cs, hl with
  | [u, v, z], _ =>
    rw [ho.1, hc.1] at g0
    rw [ho.2.1, hc.2.1] at g1
    rw [ho.2.2, hc.2.2] at g2
    obtain ⟨a, e0, s0⟩ := inv_int h0 _ _ _ g0
    obtain ⟨b, e1, s1⟩ := inv_int h1 _ _ _ g1
    obtain ⟨d, e2, s2⟩ := inv_slice h2 hb hcb _ _ _ g2
    have e0 : u = .int .i64 a := by simpa [one] using e0
    have e1 : v = .int .i64 b := by simpa [one] using e1
    have e2 : z = d.1 := by simpa [fst1] using e2
    obtain ⟨A, c, hd, r0⟩ := s2
    refine ⟨⟨a, b, A, c, d.2⟩, ?_, ?_, s0, s1⟩
    · rw [e0, e1, e2, hd]; rfl
    · intro p hp
      rw [List.mem_singleton.1 hp]
      exact ⟨A, c, rfl, r0⟩
/-- an entry as a parameter -/
theorem open_entry {t be : TypeId} {f0 f1 f2 : Field} (ht : P.underlying t = some (.struct #[f0, f1, f2])) (hct : P.cellsOf t = 3) (ho : f0.offset = 0 ∧ f1.offset = 1 ∧ f2.offset = 2) (h0 : P.underlying f0.type = some (.int .i64)) (h1 : P.underlying f1.type = some (.int .i64)) (h2 : P.underlying f2.type = some (.slice be))
    (hc : P.cellsOf f0.type = 1 ∧ P.cellsOf f1.type = 1 ∧ P.cellsOf f2.type = 1) (hb : P.underlying be = some (.int .u8)) (hcb : P.cellsOf be = 1) {r : Reach} {b0 : Nat} {v : Value} {d : DataW H} {p : List MemPlace} (hval : Value.okWide P W r b0 t v) (h : DataW.Trod enc P W base spare held t v d p) :
    ∃ a : En, v = a.agg ∧ Sl W a.val a.op ∧ (Lit.int .i64 a.c).wf = true ∧ (Lit.int .i64 a.r).wf = true := by
  obtain ⟨cs, rfl, hcs⟩ := okWide_struct ht hval
  obtain ⟨fuel, hf⟩ := h
  obtain ⟨a, ha, hp, w0, w1⟩ := inv_entry ht hct ho h0 h1 h2 hc hb hcb _ _ _ hf
  refine ⟨a, ?_, hp (a.val, a.op) (by simp [enEl]), w0, w1⟩
  have : cs.toList = enEl.cells a := by simpa [Value.cells] using ha
  have : cs = #[.int .i64 a.c, .int .i64 a.r, a.val] := by rw [← Array.toArray_toList (xs := cs), this]; rfl
  rw [this]; rfl
/-- a log as a parameter -/
theorem open_log {tl ts te be : TypeId} {g0 g1 f0 f1 f2 : Field} (hl : P.underlying tl = some (.struct #[g0, g1])) (hcl : P.cellsOf tl = 2) (hgo : g0.offset = 0 ∧ g1.offset = 1) (hg0 : P.underlying g0.type = some (.int .i64)) (hg1 : g1.type = ts) (hts : P.underlying ts = some (.slice te)) (hgc : P.cellsOf g0.type = 1 ∧ P.cellsOf g1.type = 1)
    (ht : P.underlying te = some (.struct #[f0, f1, f2])) (hct : P.cellsOf te = 3) (ho : f0.offset = 0 ∧ f1.offset = 1 ∧ f2.offset = 2) (h0 : P.underlying f0.type = some (.int .i64)) (h1 : P.underlying f1.type = some (.int .i64)) (h2 : P.underlying f2.type = some (.slice be))
    (hc : P.cellsOf f0.type = 1 ∧ P.cellsOf f1.type = 1 ∧ P.cellsOf f2.type = 1) (hb : P.underlying be = some (.int .u8)) (hcb : P.cellsOf be = 1) {r : Reach} {b0 : Nat} {v : Value} {d : DataW H} {p : List MemPlace} (hval : Value.okWide P W r b0 tl v) (h : DataW.Trod enc P W base spare held tl v d p) :
    ∃ (s : Int) (A : Option Addr) (c : Nat) (xs : List En), v = .agg #[.int .i64 s, .slice A xs.length c] ∧ (Lit.int .i64 s).wf = true ∧ xs.length ≤ c ∧ c ≤ maxLen ∧ Els enEl W A xs := by
  obtain ⟨cs, rfl, hcs⟩ := okWide_struct hl hval
  obtain ⟨fuel, hf⟩ := h
  obtain ⟨m, hlen, hf⟩ := inv_struct hl hf
  rw [hcl] at hlen
  obtain ⟨y0, k0⟩ := hf 0 g0 rfl
  obtain ⟨y1, k1⟩ := hf 1 g1 rfl
  rw [show (Value.agg cs).cells.toList = cs.toList from rfl] at hlen k0 k1
  obtain ⟨u, v, huv⟩ : ∃ u v, cs.toList = [u, v] := by
    match h : cs.toList, hlen with
    | [u, v], _ => exact ⟨u, v, rfl⟩
  rw [huv] at k0 k1
  rw [hgo.1, hgc.1] at k0
  rw [hgo.2, hgc.2] at k1
  subst hg1
  obtain ⟨s, e0, s0⟩ := inv_int hg0 _ _ _ k0
  obtain ⟨A, c, xs, e1, h3, h4, _, h5, h6, _⟩ := open_sl (sz := 3) enEl.cells _ hts hct enEl.len (inv_entry ht hct ho h0 h1 h2 hc hb hcb) k1
  have e0 : u = .int .i64 s := by simpa [one] using e0
  have e1 : v = .slice A xs.length c := by simpa using e1
  refine ⟨s, A, c, xs, ?_, s0, h3, h4, h5, fun a ha => (h6 a ha).1⟩
  have : cs = #[u, v] := by rw [← Array.toArray_toList (xs := cs), huv]
  rw [this, e0, e1]
end
/-- 'append' of some to a slice of anybody's that is full -/
theorem oper_app_full {P : Program} {w : World} {ops : Array Oper} {o : Oper} {a : Act} {K : Act → World → Prop} {Q : Exit → Act → World → Prop} (hw : Region.wanted o (yielded ops a.tmps) = true) (s x : Operand) (t : TypeId)
    (ho : o.op = .call { callee := .builtin .append, args := #[s, x], argTypes := #[t, t] })
    (e : TypeId) {z : Value} {size bytes : Nat} (ht : P.underlying t = some (.slice e)) (hinfo : (P.info? e).map (fun i => (i.zero, i.size, i.bytes)) = some (some z, size, bytes))
    (hzs : z.cells.size = size) (hsz : 0 < size)
    (A : Option Addr) (n : Nat) (olds : List Value) (hs : a.eval s = .slice A n n) (hlo : olds.length = n * size) (hro : Rd w A olds)
    (B : Addr) (m c : Nat) (news : List Value) (hx : a.eval x = .slice (some B) m c) (hm : 0 < m) (hl : news.length = m * size) (hr : Rd w (some B) news) (h1 : ∀ u ∈ news, u.oneCell' = true) (hA0 : A = none → n = 0)
    (h63 : (n + m) * bytes ≤ 140737488355328) (h64 : n + m ≤ 140737488355328)
    (h : ∀ v' w', w'.ownsRow w.heap.size e size v' (n + m) (olds ++ news) → w.grownBy w' none → K (a.put o.dst v') w') :
    if Region.wanted o (yielded ops a.tmps) = true then Oper.wp P o a w K Q else K (a.put o.dst undef) w := by
  obtain ⟨i, hi, hz0, hz1, hz2⟩ := info_parts hinfo
  rw [if_pos hw]
  have hcells : ∀ j u, news[j]? = some u → w.cell? (B.add j) = some u := by
    intro j u hj
    obtain ⟨ad', he, hc⟩ := hr j u hj
    cases he
    exact hc
  cases A with
  | none =>
    obtain rfl : n = 0 := hA0 rfl
    have hon : olds = [] := List.length_eq_zero_iff.1 (by rw [hlo]; simp)
    subst hon
    obtain ⟨v', w', hrun, h2, h3, _⟩ := run_append_own (P := P) w w.heap.size t o.type e i z size bytes ht hi hz0 hz1 hz2 hzs hsz (.slice none 0 0) 0 [] (World.ownsRow_nil w _ e size) B m c news hl hcells h1 (by simp only [maxLen]; omega) h63 (Nat.le_refl _)
    unfold Oper.wp execOp
    simp only [ho, resolve, invoke, builtin, Sem.run_bind, Sem.run_pure, Result.andThen_ok, List.map_toArray, List.map_cons, List.map_nil, hs, hx, hrun]
    exact h v' w' h2 h3
  | some ad =>
    have hoc : ∀ j u, olds[j]? = some u → w.cell? (ad.add j) = some u := by
      intro j u hj
      obtain ⟨ad', he, hc⟩ := hro j u hj
      cases he
      exact hc
    obtain ⟨v', w', hrun, h2, h3⟩ := run_append_arg_grows (P := P) w t o.type e i z size bytes ht hi hz0 hz1 hz2 hzs hsz ad n n olds hlo hoc B m c news hl hcells (by omega) (by simp only [maxLen]; omega) h63
    unfold Oper.wp execOp
    simp only [ho, resolve, invoke, builtin, Sem.run_bind, Sem.run_pure, Result.andThen_ok, List.map_toArray, List.map_cons, List.map_nil, hs, hx, hrun]
    exact h v' w' h2 h3
end Go.Cov
