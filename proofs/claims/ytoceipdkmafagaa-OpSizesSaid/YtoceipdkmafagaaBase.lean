/-
  Lemmas of this claim's own on slices in memory: what a slice value reads as, what a call owns, append onto what it owns. Over any program.
-/
import Derived.WalkKit
import Derived.WalkLawsBesides
import Derived.Maps.AppendAt
import Derived.Laws.AppendOwnNone
import Derived.Laws.IdiomStrings
import Derived.Laws.BytesString
namespace Go.Cov
open Go.RowKit

/-- A fact kept from the walk. -/
theorem hid {p : Prop} (h : p) : Hid p := h

/-- a byte -/
def byt (b : UInt8) : Value := .int .u8 b.toNat
theorem ne_nil {α : Type} {n : Nat} {xs : List α} (h : n < xs.length) : xs ≠ [] := by rintro rfl; simp at h
theorem block_add (a : Addr) (n : Nat) : (a.add n).block = a.block := by unfold Addr.add; split <;> rfl
theorem add_add' (a : Addr) (i j : Nat) : (a.add i).add j = a.add (i + j) := by
  unfold Addr.add
  by_cases hi : i = 0 <;> by_cases hj : j = 0 <;> simp [hi, hj, Nat.add_assoc]
theorem add_none (b o n : Nat) : (⟨b, o, none⟩ : Addr).add n = ⟨b, o + n, none⟩ := by
  unfold Addr.add; split <;> simp_all

/-- The cells xs lie from A on; of no cell nothing is asked. -/
def Rd (w : World) (A : Option Addr) (xs : List Value) : Prop := ∀ j u, xs[j]? = some u → ∃ ad, A = some ad ∧ w.cell? (ad.add j) = some u

section
variable {w w' : World} {A : Option Addr} {xs : List Value}
theorem Rd.nil (w : World) (A : Option Addr) : Rd w A [] := fun j u h => by simp at h
theorem Rd.addr (h : Rd w A xs) (hne : xs ≠ []) : ∃ ad, A = some ad ∧ ∀ j u, xs[j]? = some u → w.cell? (ad.add j) = some u := by
  cases xs with
  | nil => exact absurd rfl hne
  | cons x l =>
    obtain ⟨ad, hA, _⟩ := h 0 x rfl
    refine ⟨ad, hA, fun j u hj => ?_⟩
    obtain ⟨ad', hA', hc⟩ := h j u hj
    rw [hA] at hA'
    cases hA'
    exact hc
theorem Rd.keep (h : Rd w A xs) (hk : ∀ p v, w.cell? p = some v → w'.cell? p = some v) : Rd w' A xs := fun j u hj => by
  obtain ⟨ad, hA, hc⟩ := h j u hj
  exact ⟨ad, hA, hk _ _ hc⟩
theorem cell_lt {p : Addr} {v : Value} (h : w.cell? p = some v) : p.block < w.heap.size := World.block_lt_of_cell? w p h
theorem Rd.below (h : Rd w A xs) (hb : Below w.heap.size w w') : Rd w' A xs := h.keep fun _ _ hc => (hb.cell (cell_lt hc)).trans hc
theorem Rd.at' (h : Rd w A xs) {j : Nat} {u : Value} (hj : xs[j]? = some u) : ∃ ad, A = some ad ∧ w.cell? (ad.add j) = some u := h j u hj
theorem Rd.drew (h : Rd w A xs) : Rd w.drew A xs := h
theorem Rd.alloc (h : Rd w A xs) (o : Obj) : Rd (w.alloc o) A xs := h.below ((Below.refl _ _).alloc (Nat.le_refl _) o)
theorem Rd.cut (h : Rd w A xs) (k : Nat) {c : Prop} [Decidable c] (hc : c → xs.length ≤ k) : Rd w (if c then A else A.map (·.add k)) (xs.drop k) := fun j u hj => by
  rw [List.getElem?_drop] at hj
  have hlt : k + j < xs.length := (List.getElem?_eq_some_iff.1 hj).1
  rw [if_neg (fun hh => by have := hc hh; omega)]
  obtain ⟨ad, hA, hcell⟩ := h _ _ hj
  exact ⟨ad.add k, by rw [hA]; rfl, by rw [add_add']; exact hcell⟩
theorem Rd.cut' (h : Rd w A xs) (k : Nat) : Rd w (A.map (·.add k)) (xs.drop k) := fun j u hj => by
  rw [List.getElem?_drop] at hj
  obtain ⟨ad, hA, hcell⟩ := h _ _ hj
  exact ⟨ad.add k, by rw [hA]; rfl, by rw [add_add']; exact hcell⟩
theorem Rd.take (h : Rd w A xs) (k : Nat) : Rd w A (xs.take k) := fun j u hj => by
  rw [List.getElem?_take] at hj
  split at hj
  · exact h j u hj
  · cases hj
end

/-! ### a cut -/
/-- Where 'x[k:]' begins. -/
def cutA (A : Option Addr) (c k size : Nat) : Option Addr := if c = k then A else A.map (·.add (k * size))
theorem Rd.cutA {w : World} {A : Option Addr} {xs : List Value} (h : Rd w A xs) (k size : Nat) {c : Nat} (hc : xs.length ≤ c * size) : Rd w (cutA A c k size) (xs.drop (k * size)) := by
  unfold Go.Cov.cutA
  exact h.cut (k * size) (by rintro rfl; exact hc)
theorem run_slice_from {P : Program} {t e : TypeId} {z : Value} {size bytes : Nat} (ht : P.underlying t = some (.slice e)) (hinfo : (P.info? e).map (fun i => (i.zero, i.size, i.bytes)) = some (some z, size, bytes))
    (A : Option Addr) (n c k : Nat) (kd : IntKind) (i : Int) (hi : i = k) (hk : k ≤ n) (w : World) :
    (Instr.sliceAt t (.slice A n c) (some (.int kd i)) none none).run P w = .ok (.slice (cutA A c k size) (n - k) (c - k)) w := by
  subst hi
  obtain ⟨inf, hinf, _, hz1, _⟩ := info_parts hinfo
  simp [Instr.sliceAt, run_underlying ht, Instr.slice, Instr.sliceBounds, Instr.sliceBound, asIntOf, sizeOf, typeInfo, hinf, hz1, cutA, hk]
theorem run_slice_mid {P : Program} {t e : TypeId} {z : Value} {size bytes : Nat} (ht : P.underlying t = some (.slice e)) (hinfo : (P.info? e).map (fun i => (i.zero, i.size, i.bytes)) = some (some z, size, bytes))
    (A : Option Addr) (n c k m : Nat) (kd kd' : IntKind) (i j : Int) (hi : i = k) (hj : j = m) (hk : k ≤ m) (hc : m ≤ c) (w : World) :
    (Instr.sliceAt t (.slice A n c) (some (.int kd i)) (some (.int kd' j)) none).run P w = .ok (.slice (cutA A c k size) (m - k) (c - k)) w := by
  subst hi hj
  obtain ⟨inf, hinf, _, hz1, _⟩ := info_parts hinfo
  simp [Instr.sliceAt, run_underlying ht, Instr.slice, Instr.sliceBounds, Instr.sliceBound, asIntOf, sizeOf, typeInfo, hinf, hz1, cutA, hk, hc]

/-! ### what the call owns -/
section
variable {w w' : World} {base : Nat} {e : TypeId} {size : Nat} {v : Value} {n : Nat} {xs : List Value}
theorem own_shape (h : w.ownsRow base e size v n xs) : ∃ A c, v = .slice A n c ∧ n ≤ c ∧ c ≤ maxLen ∧ (A = none → n = 0 ∧ c = 0) := by
  rcases h.2 with ⟨rfl, rfl⟩ | ⟨g, cap, cur, rfl, _, _, hnc, hcm, _⟩
  · exact ⟨none, 0, rfl, Nat.le_refl _, by simp [maxLen], fun _ => ⟨rfl, rfl⟩⟩
  · exact ⟨_, cap, rfl, hnc, hcm, fun h => by cases h⟩
theorem own_rd {A : Option Addr} {c : Nat} (h : w.ownsRow base e size (.slice A n c) n xs) : Rd w A xs := by
  intro j u hj
  rcases h.2 with ⟨hv, rfl⟩ | ⟨g, cap, cur, hv, _⟩
  · have : xs = [] := List.eq_nil_of_length_eq_zero (by simpa using h.1)
    subst this
    simp at hj
  · injection hv with hA
    subst hA
    exact ⟨_, rfl, h.cells (g := g) rfl j u hj⟩
theorem own_below (h : w.ownsRow base e size v n xs) (hb : Below w.heap.size w w') : w'.ownsRow base e size v n xs :=
  h.kept (row := none) ⟨hb.os, hb.tape, hb.output, hb.size, fun k hk _ => hb.block k hk⟩ (by cases v.ownBlock <;> simp)
theorem own_mono {base' : Nat} (h : w.ownsRow base e size v n xs) (hb : base' ≤ base) : w.ownsRow base' e size v n xs := by
  refine ⟨h.1, ?_⟩
  rcases h.2 with h2 | ⟨g, cap, cur, hv, hg, r⟩
  · exact .inl h2
  · exact .inr ⟨g, cap, cur, hv, by omega, r⟩
theorem own_lt (h : w.ownsRow base e size v n xs) {k : Nat} (hk : v.ownBlock = some k) : base ≤ k ∧ k < w.heap.size := h.lt k hk
end

theorem grown_after {a b c : World} {row row2 : Option Nat} (h : a.grownBy b row) (k : b.grownBy c row2) (hr : ∀ j, row2 = some j → a.heap.size ≤ j ∨ row2 = row) : a.grownBy c row := by
  refine ⟨k.os.trans h.os, k.tape.trans h.tape, k.output.trans h.output, Nat.le_trans h.size k.size, fun i hi hne => (k.block i (Nat.lt_of_lt_of_le hi h.size) ?_).trans (h.block i hi hne)⟩
  intro he
  rcases hr i he.symm with h1 | h1
  · omega
  · exact hne (he.trans h1)
theorem grown_of_below {a b : World} (h : Below a.heap.size a b) (row : Option Nat) : a.grownBy b row := ⟨h.os, h.tape, h.output, h.size, fun k hk _ => h.block k hk⟩
theorem below_of_grown {a b : World} (h : a.grownBy b none) : Below a.heap.size a b := ⟨h.os, h.tape, h.output, h.size, fun k hk => h.block k hk (by simp)⟩
theorem grown_alloc {a b : World} {row : Option Nat} (h : a.grownBy b row) (o : Obj) : a.grownBy (b.alloc o) row := grown_after h (World.grownBy_alloc b o none) (by simp)
theorem grown_drew {a b : World} {row : Option Nat} (h : a.grownBy b row) : a.grownBy b.drew row := ⟨h.os, h.tape, h.output, h.size, h.block⟩
theorem own_ne {w : World} {base : Nat} {e : TypeId} {size : Nat} {v : Value} {n : Nat} {xs : List Value} (h : w.ownsRow base e size v n xs) {k : Nat} (hk : k < base) : some k ≠ v.ownBlock := by
  intro he
  have := (own_lt h he.symm).1
  omega

/-! ### append onto what the call owns -/
section
variable {P : Program} {w : World}
theorem wpList_wanted {ops : Array Oper} {rest : List Oper} {o : Oper} {a : Act} {Q : Exit → Act → World → Prop} (hw : Region.wanted o (yielded ops a.tmps) = true)
    (h : ∀ K : Act → World → Prop, (∀ a w, wpList P ops Q rest a w → K a w) → o.wp P a w K Q) : wpList P ops Q (o :: rest) a w :=
  wpList_step fun K hK => by rw [if_pos hw]; exact h K hK
theorem wpList_app {ops : Array Oper} {rest : List Oper} {o : Oper} {a : Act} {Q : Exit → Act → World → Prop} (hgd : Region.wanted o (yielded ops a.tmps) = true) (s x : Operand) (t : TypeId)
    (ho : o.op = .call { callee := .builtin .append, args := #[s, x], argTypes := #[t, t] })
    (base : Nat) (e : TypeId) {z : Value} {size bytes : Nat} (ht : P.underlying t = some (.slice e)) (hinfo : (P.info? e).map (fun i => (i.zero, i.size, i.bytes)) = some (some z, size, bytes))
    (hzs : z.cells.size = size) (hsz : 0 < size)
    (v : Value) (n : Nat) (xs : List Value) (hs : a.eval s = v) (hown : w.ownsRow base e size v n xs)
    (A : Option Addr) (m c : Nat) (news : List Value) (hx : a.eval x = .slice A m c) (hl : news.length = m * size) (hr : Rd w A news) (h1 : ∀ u ∈ news, u.oneCell' = true)
    (h63 : (n + m) * bytes ≤ 140737488355328) (h64 : n + m ≤ 140737488355328) (hbase : base ≤ w.heap.size)
    (h : ∀ v' w', w'.ownsRow base e size v' (n + m) (xs ++ news) → w.grownBy w' v.ownBlock → (v'.ownBlock = v.ownBlock ∨ v'.ownBlock = some w.heap.size) → wpList P ops Q rest (a.put o.dst v') w') :
    wpList P ops Q (o :: rest) a w := by
  obtain ⟨i, hi, hz0, hz1, hz2⟩ := info_parts hinfo
  by_cases hA : A = none
  · subst hA
    have hnews : news = [] := by
      cases news with
      | nil => rfl
      | cons y l => obtain ⟨ad, hn, _⟩ := hr 0 y rfl; cases hn
    subst hnews
    have hm : m = 0 := by
      rcases Nat.eq_zero_or_pos m with h0 | h0
      · exact h0
      · have := Nat.mul_pos h0 hsz
        simp at hl
        omega
    subst hm
    refine wpList_wanted hgd fun K hK => ?_
    have hrun : (Builtin.append_ #[t, t] o.type #[v, .slice none 0 c]).run P w = .ok v w := by
      rcases hown.2 with ⟨rfl, rfl⟩ | ⟨g, cap, cur, rfl, _, _, hnc, _⟩
      · simp [Builtin.append_, run_underlying ht, sizeOf, typeInfo, hi, Builtin.lenOf, Builtin.firstCells]
      · simp [Builtin.append_, run_underlying ht, sizeOf, typeInfo, hi, Builtin.lenOf, Builtin.firstCells, hnc, storeCells]
    unfold Oper.wp execOp
    simp only [ho, resolve, invoke, builtin, Sem.run_bind, Sem.run_pure, Result.andThen_ok, List.map_toArray, List.map_cons, List.map_nil, hs, hx, hrun]
    exact hK _ _ (h v w (by simpa using hown) (World.grownBy.refl w _) (.inl rfl))
  · obtain ⟨ad, rfl⟩ : ∃ ad, A = some ad := by cases A with
      | none => exact absurd rfl hA
      | some ad => exact ⟨ad, rfl⟩
    have hcells : ∀ j u, news[j]? = some u → w.cell? (ad.add j) = some u := by
      intro j u hj
      obtain ⟨ad', he, hc⟩ := hr j u hj
      cases he
      exact hc
    refine wpList_wanted hgd fun K hK => ?_
    obtain ⟨v', w', hrun, h2, h3, _, h5⟩ := run_append_own_at (P := P) w base t o.type e i z size bytes ht hi hz0 hz1 hz2 hzs hsz v n xs hown ad m c news hl hcells h1 (by simp only [maxLen]; omega) h63 hbase
    unfold Oper.wp execOp
    simp only [ho, resolve, invoke, builtin, Sem.run_bind, Sem.run_pure, Result.andThen_ok, List.map_toArray, List.map_cons, List.map_nil, hs, hx, hrun]
    exact hK _ _ (h v' w' h2 h3 h5)
/-- 'make([]T, 0, n)' -/
theorem wpList_mk0 {ops : Array Oper} {rest : List Oper} {o : Oper} {a : Act} {Q : Exit → Act → World → Prop} (hgd : o.guard = none) (l c : Operand) (t : TypeId) (ho : o.op = Op.makeSlice t l c)
    (base : Nat) (e : TypeId) {z : Value} {size bytes : Nat} (ht : P.underlying t = some (.slice e)) (hinfo : (P.info? e).map (fun i => (i.zero, i.size, i.bytes)) = some (some z, size, bytes))
    {kl kc : IntKind} {C : Int} (n : Nat) (hl : a.eval l = .int kl 0) (hc : a.eval c = .int kc C) (hC : C = (n : Int)) (b2 : bytes * n ≤ 281474976710656) (b3 : n ≤ 9223372036854775807) (hbase : base ≤ w.heap.size)
    (hK : ∀ w', w'.ownsRow base e size (.slice (some ⟨w.heap.size, 0, none⟩) 0 n) 0 [] → w.grownBy w' none → wpList P ops Q rest (a.put o.dst (.slice (some ⟨w.heap.size, 0, none⟩) 0 n)) w') :
    wpList P ops Q (o :: rest) a w := by
  obtain ⟨i, hi, hz0, hz1, hz2⟩ := info_parts hinfo
  exact wpList_make_own w hgd l c t ho base e i z size ht hi hz0 hz1 kl kc C n hl hc hC (by rw [hz2]; exact b2) (by simp only [maxLen]; omega) hbase hK
/-- 'make([]T, n)' -/
theorem wpList_mkn {ops : Array Oper} {rest : List Oper} {o : Oper} {a : Act} {Q : Exit → Act → World → Prop} (hgd : o.guard = none) (l c : Operand) (t : TypeId) (ho : o.op = Op.makeSlice t l c)
    (base : Nat) (e : TypeId) {z : Value} {size bytes : Nat} (ht : P.underlying t = some (.slice e)) (hinfo : (P.info? e).map (fun i => (i.zero, i.size, i.bytes)) = some (some z, size, bytes))
    {kl kc : IntKind} {L C : Int} (n : Nat) (hl : a.eval l = .int kl L) (hc : a.eval c = .int kc C) (hL : L = (n : Int)) (hC : C = (n : Int)) (b2 : bytes * n ≤ 281474976710656) (b3 : n ≤ 9223372036854775807) (hbase : base ≤ w.heap.size)
    (hK : ∀ w', w'.ownsRow base e size (.slice (some ⟨w.heap.size, 0, none⟩) n n) n (madeCells z.cells (n * size)).toList → w.grownBy w' none → wpList P ops Q rest (a.put o.dst (.slice (some ⟨w.heap.size, 0, none⟩) n n)) w') :
    wpList P ops Q (o :: rest) a w := by
  obtain ⟨i, hi, hz0, hz1, hz2⟩ := info_parts hinfo
  exact wpList_make_full w hgd l c t ho base e i z size ht hi hz0 hz1 kl kc L C n hl hc hL hC (by rw [hz2]; exact b2) (by simp only [maxLen]; omega) hbase hK
/-- A slice of bytes to a string. -/
def str (l : List UInt8) : ByteArray := ⟨l.toArray⟩
theorem str_inj {l l' : List UInt8} (h : str l = str l') : l = l' := by
  have := congrArg ByteArray.data h
  simpa [str] using this
theorem conv_bs {src dst e : TypeId} (hs : P.underlying src = some (.slice e)) (he : P.underlying e = some (.int .u8)) (hd : P.underlying dst = some .string) {A : Option Addr} {l : List UInt8} (h : Rd w A (l.map byt)) (cap : Nat) :
    (convert src dst (.slice A l.length cap)).run P w = .ok (.string (str l)) w := by
  cases l with
  | nil =>
    cases A with
    | none => exact run_convert_bytes_string w src dst e none 0 cap hs he hd
    | some ad => exact run_convert_bytes_back w src dst e ad cap [] hs he hd (by intro j hj; simp at hj)
  | cons b l =>
    obtain ⟨ad, rfl, _⟩ := h 0 (byt b) rfl
    refine run_convert_bytes_back w src dst e ad cap (b :: l) hs he hd fun j hj => ?_
    obtain ⟨ad', he', hc⟩ := h j (byt (b :: l)[j]) (by rw [List.getElem?_map, List.getElem?_eq_getElem hj]; rfl)
    cases he'
    exact hc
theorem rd_box (w : World) (cs : Array Value) (t : TypeId) : Rd (w.alloc (.cells cs t)) (some ⟨w.heap.size, 0, none⟩) cs.toList := by
  intro j u hj
  refine ⟨_, rfl, ?_⟩
  rw [add_none, cell_of_row (w.alloc (.cells cs t)) w.heap.size (0 + j) cs t (0, 0) (heap_alloc_new w _)]
  simpa using hj
end
end Go.Cov
