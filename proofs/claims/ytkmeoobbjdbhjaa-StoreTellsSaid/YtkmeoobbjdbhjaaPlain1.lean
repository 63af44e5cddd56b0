import Derived.WalkKit
import Derived.WalkLawsBesides
import Derived.Maps.AppendAt
import Derived.Laws.AppendOwnNone
import Derived.Laws.IdiomStrings
import Derived.Laws.BytesString
import Derived.Deep.RegionHeld3
import Derived.Below
import Derived.Lib.BytesEntry
import Derived.Lib.Bytealg
import Derived.ProofKit
import Derived.OpenShut
import Derived.ShutString
import Derived.ChangeOld
import Derived.Deep.Slices
import Derived.SizedLaws
/-
  Lemmas of this claim's own on slices in memory: what a slice value reads as, what a call owns, append onto what it owns. Over any program.
-/
namespace Go.Cov
open Go.RowKit

/-- A fact kept from the walk. -/
theorem hid {p : Prop} (h : p) : Hid p := h

/-- a byte -/
def byt (b : UInt8) : Value := .int .u8 b.toNat
theorem ne_nil {α : Type} {n : Nat} {xs : List α} (h : n < xs.length) : xs ≠ [] := by rintro rfl; simp at h
theorem block_add (a : Addr) (n : Nat) : (a.add n).block = a.block := by unfold Addr.add; split <;> rfl
theorem add_add' (a : Addr) (i j : Nat) : (a.add i).add j = a.add (i + j) := by
  unfold Addr.add
  by_cases hi : i = 0 <;> by_cases hj : j = 0 <;> simp [hi, hj, Nat.add_assoc]
theorem add_none (b o n : Nat) : (⟨b, o, none⟩ : Addr).add n = ⟨b, o + n, none⟩ := by
  unfold Addr.add; split <;> simp_all

/-- The cells xs lie from A on; of no cell nothing is asked. -/
def Rd (w : World) (A : Option Addr) (xs : List Value) : Prop := ∀ j u, xs[j]? = some u → ∃ ad, A = some ad ∧ w.cell? (ad.add j) = some u

section
variable {w w' : World} {A : Option Addr} {xs : List Value}
theorem Rd.nil (w : World) (A : Option Addr) : Rd w A [] := fun j u h => by simp at h
theorem Rd.addr (h : Rd w A xs) (hne : xs ≠ []) : ∃ ad, A = some ad ∧ ∀ j u, xs[j]? = some u → w.cell? (ad.add j) = some u := by
  cases xs with
  | nil => exact absurd rfl hne
  | cons x l =>
    obtain ⟨ad, hA, _⟩ := h 0 x rfl
    refine ⟨ad, hA, fun j u hj => ?_⟩
    obtain ⟨ad', hA', hc⟩ := h j u hj
    rw [hA] at hA'
    cases hA'
    exact hc
theorem Rd.keep (h : Rd w A xs) (hk : ∀ p v, w.cell? p = some v → w'.cell? p = some v) : Rd w' A xs := fun j u hj => by
  obtain ⟨ad, hA, hc⟩ := h j u hj
  exact ⟨ad, hA, hk _ _ hc⟩
theorem cell_lt {p : Addr} {v : Value} (h : w.cell? p = some v) : p.block < w.heap.size := World.block_lt_of_cell? w p h
theorem Rd.below (h : Rd w A xs) (hb : Below w.heap.size w w') : Rd w' A xs := h.keep fun _ _ hc => (hb.cell (cell_lt hc)).trans hc
theorem Rd.at' (h : Rd w A xs) {j : Nat} {u : Value} (hj : xs[j]? = some u) : ∃ ad, A = some ad ∧ w.cell? (ad.add j) = some u := h j u hj
theorem Rd.drew (h : Rd w A xs) : Rd w.drew A xs := h
theorem Rd.alloc (h : Rd w A xs) (o : Obj) : Rd (w.alloc o) A xs := h.below ((Below.refl _ _).alloc (Nat.le_refl _) o)
theorem Rd.cut (h : Rd w A xs) (k : Nat) {c : Prop} [Decidable c] (hc : c → xs.length ≤ k) : Rd w (if c then A else A.map (·.add k)) (xs.drop k) := fun j u hj => by
  rw [List.getElem?_drop] at hj
  have hlt : k + j < xs.length := (List.getElem?_eq_some_iff.1 hj).1
  rw [if_neg (fun hh => by have := hc hh; omega)]
  obtain ⟨ad, hA, hcell⟩ := h _ _ hj
  exact ⟨ad.add k, by rw [hA]; rfl, by rw [add_add']; exact hcell⟩
theorem Rd.cut' (h : Rd w A xs) (k : Nat) : Rd w (A.map (·.add k)) (xs.drop k) := fun j u hj => by
  rw [List.getElem?_drop] at hj
  obtain ⟨ad, hA, hcell⟩ := h _ _ hj
  exact ⟨ad.add k, by rw [hA]; rfl, by rw [add_add']; exact hcell⟩
theorem Rd.take (h : Rd w A xs) (k : Nat) : Rd w A (xs.take k) := fun j u hj => by
  rw [List.getElem?_take] at hj
  split at hj
  · exact h j u hj
  · cases hj
end

/-! ### a cut -/
/-- Where 'x[k:]' begins. -/
def cutA (A : Option Addr) (c k size : Nat) : Option Addr := if c = k then A else A.map (·.add (k * size))
theorem Rd.cutA {w : World} {A : Option Addr} {xs : List Value} (h : Rd w A xs) (k size : Nat) {c : Nat} (hc : xs.length ≤ c * size) : Rd w (cutA A c k size) (xs.drop (k * size)) := by
  unfold Go.Cov.cutA
  exact h.cut (k * size) (by rintro rfl; exact hc)
theorem run_slice_from {P : Program} {t e : TypeId} {z : Value} {size bytes : Nat} (ht : P.underlying t = some (.slice e)) (hinfo : (P.info? e).map (fun i => (i.zero, i.size, i.bytes)) = some (some z, size, bytes))
    (A : Option Addr) (n c k : Nat) (kd : IntKind) (i : Int) (hi : i = k) (hk : k ≤ n) (w : World) :
    (Instr.sliceAt t (.slice A n c) (some (.int kd i)) none none).run P w = .ok (.slice (cutA A c k size) (n - k) (c - k)) w := by
  subst hi
  obtain ⟨inf, hinf, _, hz1, _⟩ := info_parts hinfo
  simp [Instr.sliceAt, run_underlying ht, Instr.slice, Instr.sliceBounds, Instr.sliceBound, asIntOf, sizeOf, typeInfo, hinf, hz1, cutA, hk]
theorem run_slice_mid {P : Program} {t e : TypeId} {z : Value} {size bytes : Nat} (ht : P.underlying t = some (.slice e)) (hinfo : (P.info? e).map (fun i => (i.zero, i.size, i.bytes)) = some (some z, size, bytes))
    (A : Option Addr) (n c k m : Nat) (kd kd' : IntKind) (i j : Int) (hi : i = k) (hj : j = m) (hk : k ≤ m) (hc : m ≤ c) (w : World) :
    (Instr.sliceAt t (.slice A n c) (some (.int kd i)) (some (.int kd' j)) none).run P w = .ok (.slice (cutA A c k size) (m - k) (c - k)) w := by
  subst hi hj
  obtain ⟨inf, hinf, _, hz1, _⟩ := info_parts hinfo
  simp [Instr.sliceAt, run_underlying ht, Instr.slice, Instr.sliceBounds, Instr.sliceBound, asIntOf, sizeOf, typeInfo, hinf, hz1, cutA, hk, hc]

/-! ### what the call owns -/
section
variable {w w' : World} {base : Nat} {e : TypeId} {size : Nat} {v : Value} {n : Nat} {xs : List Value}
theorem own_shape (h : w.ownsRow base e size v n xs) : ∃ A c, v = .slice A n c ∧ n ≤ c ∧ c ≤ maxLen ∧ (A = none → n = 0 ∧ c = 0) := by
  rcases h.2 with ⟨rfl, rfl⟩ | ⟨g, cap, cur, rfl, _, _, hnc, hcm, _⟩
  · exact ⟨none, 0, rfl, Nat.le_refl _, by simp [maxLen], fun _ => ⟨rfl, rfl⟩⟩
  · exact ⟨_, cap, rfl, hnc, hcm, fun h => by cases h⟩
theorem own_rd {A : Option Addr} {c : Nat} (h : w.ownsRow base e size (.slice A n c) n xs) : Rd w A xs := by
  intro j u hj
  rcases h.2 with ⟨hv, rfl⟩ | ⟨g, cap, cur, hv, _⟩
  · have : xs = [] := List.eq_nil_of_length_eq_zero (by simpa using h.1)
    subst this
    simp at hj
  · injection hv with hA
    subst hA
    exact ⟨_, rfl, h.cells (g := g) rfl j u hj⟩
theorem own_below (h : w.ownsRow base e size v n xs) (hb : Below w.heap.size w w') : w'.ownsRow base e size v n xs :=
  h.kept (row := none) ⟨hb.os, hb.tape, hb.output, hb.size, fun k hk _ => hb.block k hk⟩ (by cases v.ownBlock <;> simp)
theorem own_mono {base' : Nat} (h : w.ownsRow base e size v n xs) (hb : base' ≤ base) : w.ownsRow base' e size v n xs := by
  refine ⟨h.1, ?_⟩
  rcases h.2 with h2 | ⟨g, cap, cur, hv, hg, r⟩
  · exact .inl h2
  · exact .inr ⟨g, cap, cur, hv, by omega, r⟩
theorem own_lt (h : w.ownsRow base e size v n xs) {k : Nat} (hk : v.ownBlock = some k) : base ≤ k ∧ k < w.heap.size := h.lt k hk
end

theorem grown_after {a b c : World} {row row2 : Option Nat} (h : a.grownBy b row) (k : b.grownBy c row2) (hr : ∀ j, row2 = some j → a.heap.size ≤ j ∨ row2 = row) : a.grownBy c row := by
  refine ⟨k.os.trans h.os, k.tape.trans h.tape, k.output.trans h.output, Nat.le_trans h.size k.size, fun i hi hne => (k.block i (Nat.lt_of_lt_of_le hi h.size) ?_).trans (h.block i hi hne)⟩
  intro he
  rcases hr i he.symm with h1 | h1
  · omega
  · exact hne (he.trans h1)
theorem grown_of_below {a b : World} (h : Below a.heap.size a b) (row : Option Nat) : a.grownBy b row := ⟨h.os, h.tape, h.output, h.size, fun k hk _ => h.block k hk⟩
theorem below_of_grown {a b : World} (h : a.grownBy b none) : Below a.heap.size a b := ⟨h.os, h.tape, h.output, h.size, fun k hk => h.block k hk (by simp)⟩
theorem grown_alloc {a b : World} {row : Option Nat} (h : a.grownBy b row) (o : Obj) : a.grownBy (b.alloc o) row := grown_after h (World.grownBy_alloc b o none) (by simp)
theorem grown_drew {a b : World} {row : Option Nat} (h : a.grownBy b row) : a.grownBy b.drew row := ⟨h.os, h.tape, h.output, h.size, h.block⟩
theorem own_ne {w : World} {base : Nat} {e : TypeId} {size : Nat} {v : Value} {n : Nat} {xs : List Value} (h : w.ownsRow base e size v n xs) {k : Nat} (hk : k < base) : some k ≠ v.ownBlock := by
  intro he
  have := (own_lt h he.symm).1
  omega

/-! ### append onto what the call owns -/
section
variable {P : Program} {w : World}
theorem wpList_wanted {ops : Array Oper} {rest : List Oper} {o : Oper} {a : Act} {Q : Exit → Act → World → Prop} (hw : Region.wanted o (yielded ops a.tmps) = true)
    (h : ∀ K : Act → World → Prop, (∀ a w, wpList P ops Q rest a w → K a w) → o.wp P a w K Q) : wpList P ops Q (o :: rest) a w :=
  wpList_step fun K hK => by rw [if_pos hw]; exact h K hK
theorem wpList_app {ops : Array Oper} {rest : List Oper} {o : Oper} {a : Act} {Q : Exit → Act → World → Prop} (hgd : Region.wanted o (yielded ops a.tmps) = true) (s x : Operand) (t : TypeId)
    (ho : o.op = .call { callee := .builtin .append, args := #[s, x], argTypes := #[t, t] })
    (base : Nat) (e : TypeId) {z : Value} {size bytes : Nat} (ht : P.underlying t = some (.slice e)) (hinfo : (P.info? e).map (fun i => (i.zero, i.size, i.bytes)) = some (some z, size, bytes))
    (hzs : z.cells.size = size) (hsz : 0 < size)
    (v : Value) (n : Nat) (xs : List Value) (hs : a.eval s = v) (hown : w.ownsRow base e size v n xs)
    (A : Option Addr) (m c : Nat) (news : List Value) (hx : a.eval x = .slice A m c) (hl : news.length = m * size) (hr : Rd w A news) (h1 : ∀ u ∈ news, u.oneCell' = true)
    (h63 : (n + m) * bytes ≤ 140737488355328) (h64 : n + m ≤ 140737488355328) (hbase : base ≤ w.heap.size)
    (h : ∀ v' w', w'.ownsRow base e size v' (n + m) (xs ++ news) → w.grownBy w' v.ownBlock → (v'.ownBlock = v.ownBlock ∨ v'.ownBlock = some w.heap.size) → wpList P ops Q rest (a.put o.dst v') w') :
    wpList P ops Q (o :: rest) a w := by
  obtain ⟨i, hi, hz0, hz1, hz2⟩ := info_parts hinfo
  by_cases hA : A = none
  · subst hA
    have hnews : news = [] := by
      cases news with
      | nil => rfl
      | cons y l => obtain ⟨ad, hn, _⟩ := hr 0 y rfl; cases hn
    subst hnews
    have hm : m = 0 := by
      rcases Nat.eq_zero_or_pos m with h0 | h0
      · exact h0
      · have := Nat.mul_pos h0 hsz
        simp at hl
        omega
    subst hm
    refine wpList_wanted hgd fun K hK => ?_
    have hrun : (Builtin.append_ #[t, t] o.type #[v, .slice none 0 c]).run P w = .ok v w := by
      rcases hown.2 with ⟨rfl, rfl⟩ | ⟨g, cap, cur, rfl, _, _, hnc, _⟩
      · simp [Builtin.append_, run_underlying ht, sizeOf, typeInfo, hi, Builtin.lenOf, Builtin.firstCells]
      · simp [Builtin.append_, run_underlying ht, sizeOf, typeInfo, hi, Builtin.lenOf, Builtin.firstCells, hnc, storeCells]
    unfold Oper.wp execOp
    simp only [ho, resolve, invoke, builtin, Sem.run_bind, Sem.run_pure, Result.andThen_ok, List.map_toArray, List.map_cons, List.map_nil, hs, hx, hrun]
    exact hK _ _ (h v w (by simpa using hown) (World.grownBy.refl w _) (.inl rfl))
  · obtain ⟨ad, rfl⟩ : ∃ ad, A = some ad := by cases A with
      | none => exact absurd rfl hA
      | some ad => exact ⟨ad, rfl⟩
    have hcells : ∀ j u, news[j]? = some u → w.cell? (ad.add j) = some u := by
      intro j u hj
      obtain ⟨ad', he, hc⟩ := hr j u hj
      cases he
      exact hc
    refine wpList_wanted hgd fun K hK => ?_
    obtain ⟨v', w', hrun, h2, h3, _, h5⟩ := run_append_own_at (P := P) w base t o.type e i z size bytes ht hi hz0 hz1 hz2 hzs hsz v n xs hown ad m c news hl hcells h1 (by simp only [maxLen]; omega) h63 hbase
    unfold Oper.wp execOp
    simp only [ho, resolve, invoke, builtin, Sem.run_bind, Sem.run_pure, Result.andThen_ok, List.map_toArray, List.map_cons, List.map_nil, hs, hx, hrun]
    exact hK _ _ (h v' w' h2 h3 h5)
/-- 'make([]T, 0, n)' -/
theorem wpList_mk0 {ops : Array Oper} {rest : List Oper} {o : Oper} {a : Act} {Q : Exit → Act → World → Prop} (hgd : o.guard = none) (l c : Operand) (t : TypeId) (ho : o.op = Op.makeSlice t l c)
    (base : Nat) (e : TypeId) {z : Value} {size bytes : Nat} (ht : P.underlying t = some (.slice e)) (hinfo : (P.info? e).map (fun i => (i.zero, i.size, i.bytes)) = some (some z, size, bytes))
    {kl kc : IntKind} {C : Int} (n : Nat) (hl : a.eval l = .int kl 0) (hc : a.eval c = .int kc C) (hC : C = (n : Int)) (b2 : bytes * n ≤ 281474976710656) (b3 : n ≤ 9223372036854775807) (hbase : base ≤ w.heap.size)
    (hK : ∀ w', w'.ownsRow base e size (.slice (some ⟨w.heap.size, 0, none⟩) 0 n) 0 [] → w.grownBy w' none → wpList P ops Q rest (a.put o.dst (.slice (some ⟨w.heap.size, 0, none⟩) 0 n)) w') :
    wpList P ops Q (o :: rest) a w := by
  obtain ⟨i, hi, hz0, hz1, hz2⟩ := info_parts hinfo
  exact wpList_make_own w hgd l c t ho base e i z size ht hi hz0 hz1 kl kc C n hl hc hC (by rw [hz2]; exact b2) (by simp only [maxLen]; omega) hbase hK
/-- 'make([]T, n)' -/
theorem wpList_mkn {ops : Array Oper} {rest : List Oper} {o : Oper} {a : Act} {Q : Exit → Act → World → Prop} (hgd : o.guard = none) (l c : Operand) (t : TypeId) (ho : o.op = Op.makeSlice t l c)
    (base : Nat) (e : TypeId) {z : Value} {size bytes : Nat} (ht : P.underlying t = some (.slice e)) (hinfo : (P.info? e).map (fun i => (i.zero, i.size, i.bytes)) = some (some z, size, bytes))
    {kl kc : IntKind} {L C : Int} (n : Nat) (hl : a.eval l = .int kl L) (hc : a.eval c = .int kc C) (hL : L = (n : Int)) (hC : C = (n : Int)) (b2 : bytes * n ≤ 281474976710656) (b3 : n ≤ 9223372036854775807) (hbase : base ≤ w.heap.size)
    (hK : ∀ w', w'.ownsRow base e size (.slice (some ⟨w.heap.size, 0, none⟩) n n) n (madeCells z.cells (n * size)).toList → w.grownBy w' none → wpList P ops Q rest (a.put o.dst (.slice (some ⟨w.heap.size, 0, none⟩) n n)) w') :
    wpList P ops Q (o :: rest) a w := by
  obtain ⟨i, hi, hz0, hz1, hz2⟩ := info_parts hinfo
  exact wpList_make_full w hgd l c t ho base e i z size ht hi hz0 hz1 kl kc L C n hl hc hL hC (by rw [hz2]; exact b2) (by simp only [maxLen]; omega) hbase hK
/-- A slice of bytes to a string. -/
def str (l : List UInt8) : ByteArray := ⟨l.toArray⟩
theorem str_inj {l l' : List UInt8} (h : str l = str l') : l = l' := by
  have := congrArg ByteArray.data h
  simpa [str] using this
theorem conv_bs {src dst e : TypeId} (hs : P.underlying src = some (.slice e)) (he : P.underlying e = some (.int .u8)) (hd : P.underlying dst = some .string) {A : Option Addr} {l : List UInt8} (h : Rd w A (l.map byt)) (cap : Nat) :
    (convert src dst (.slice A l.length cap)).run P w = .ok (.string (str l)) w := by
  cases l with
  | nil =>
    cases A with
    | none => exact run_convert_bytes_string w src dst e none 0 cap hs he hd
    | some ad => exact run_convert_bytes_back w src dst e ad cap [] hs he hd (by intro j hj; simp at hj)
  | cons b l =>
    obtain ⟨ad, rfl, _⟩ := h 0 (byt b) rfl
    refine run_convert_bytes_back w src dst e ad cap (b :: l) hs he hd fun j hj => ?_
    obtain ⟨ad', he', hc⟩ := h j (byt (b :: l)[j]) (by rw [List.getElem?_map, List.getElem?_eq_getElem hj]; rfl)
    cases he'
    exact hc
theorem rd_box (w : World) (cs : Array Value) (t : TypeId) : Rd (w.alloc (.cells cs t)) (some ⟨w.heap.size, 0, none⟩) cs.toList := by
  intro j u hj
  refine ⟨_, rfl, ?_⟩
  rw [add_none, cell_of_row (w.alloc (.cells cs t)) w.heap.size (0 + j) cs t (0, 0) (heap_alloc_new w _)]
  simpa using hj
end
end Go.Cov


/-! 'append' of a slice in a region that draws its order. Over any program. -/
namespace Go.Cov
open Go.RowKit
theorem oper_app {P : Program} {w : World} {ops : Array Oper} {o : Oper} {a : Act} {K : Act → World → Prop} {Q : Exit → Act → World → Prop} (hw : Region.wanted o (yielded ops a.tmps) = true) (s x : Operand) (t : TypeId)
    (ho : o.op = .call { callee := .builtin .append, args := #[s, x], argTypes := #[t, t] })
    (base : Nat) (e : TypeId) {z : Value} {size bytes : Nat} (ht : P.underlying t = some (.slice e)) (hinfo : (P.info? e).map (fun i => (i.zero, i.size, i.bytes)) = some (some z, size, bytes))
    (hzs : z.cells.size = size) (hsz : 0 < size)
    (v : Value) (n : Nat) (xs : List Value) (hs : a.eval s = v) (hown : w.ownsRow base e size v n xs)
    (A : Option Addr) (m c : Nat) (news : List Value) (hx : a.eval x = .slice A m c) (hl : news.length = m * size) (hr : Rd w A news) (h1 : ∀ u ∈ news, u.oneCell' = true)
    (h63 : (n + m) * bytes ≤ 140737488355328) (h64 : n + m ≤ 140737488355328) (hbase : base ≤ w.heap.size)
    (h : ∀ v' w', w'.ownsRow base e size v' (n + m) (xs ++ news) → w.grownBy w' v.ownBlock → K (a.put o.dst v') w') :
    if Region.wanted o (yielded ops a.tmps) = true then Oper.wp P o a w K Q else K (a.put o.dst undef) w := by
  obtain ⟨i, hi, hz0, hz1, hz2⟩ := info_parts hinfo
  rw [if_pos hw]
  by_cases hA : A = none
  · subst hA
    have hnews : news = [] := by
      cases news with
      | nil => rfl
      | cons y l => obtain ⟨ad, hn, _⟩ := hr 0 y rfl; cases hn
    subst hnews
    have hm : m = 0 := by
      rcases Nat.eq_zero_or_pos m with h0 | h0
      · exact h0
      · have := Nat.mul_pos h0 hsz
        simp at hl
        omega
    subst hm
    have hrun : (Builtin.append_ #[t, t] o.type #[v, .slice none 0 c]).run P w = .ok v w := by
      rcases hown.2 with ⟨rfl, rfl⟩ | ⟨g, cap, cur, rfl, _, _, hnc, _⟩
      · simp [Builtin.append_, run_underlying ht, sizeOf, typeInfo, hi, Builtin.lenOf, Builtin.firstCells]
      · simp [Builtin.append_, run_underlying ht, sizeOf, typeInfo, hi, Builtin.lenOf, Builtin.firstCells, hnc, storeCells]
    unfold Oper.wp execOp
    simp only [ho, resolve, invoke, builtin, Sem.run_bind, Sem.run_pure, Result.andThen_ok, List.map_toArray, List.map_cons, List.map_nil, hs, hx, hrun]
    exact h v w (by simpa using hown) (World.grownBy.refl w _)
  · obtain ⟨ad, rfl⟩ : ∃ ad, A = some ad := by cases A with
      | none => exact absurd rfl hA
      | some ad => exact ⟨ad, rfl⟩
    have hcells : ∀ j u, news[j]? = some u → w.cell? (ad.add j) = some u := by
      intro j u hj
      obtain ⟨ad', he, hc⟩ := hr j u hj
      cases he
      exact hc
    obtain ⟨v', w', hrun, h2, h3, _, h5⟩ := run_append_own_at (P := P) w base t o.type e i z size bytes ht hi hz0 hz1 hz2 hzs hsz v n xs hown ad m c news hl hcells h1 (by simp only [maxLen]; omega) h63 hbase
    unfold Oper.wp execOp
    simp only [ho, resolve, invoke, builtin, Sem.run_bind, Sem.run_pure, Result.andThen_ok, List.map_toArray, List.map_cons, List.map_nil, hs, hx, hrun]
    exact h v' w' h2 h3
theorem run_slice_to {P : Program} {t e : TypeId} {z : Value} {size bytes : Nat} (ht : P.underlying t = some (.slice e)) (hinfo : (P.info? e).map (fun i => (i.zero, i.size, i.bytes)) = some (some z, size, bytes))
    (A : Option Addr) (n c m : Nat) (kd' : IntKind) (j : Int) (hj : j = m) (hc : m ≤ c) (w : World) :
    (Instr.sliceAt t (.slice A n c) none (some (.int kd' j)) none).run P w = .ok (.slice A m c) w := by
  subst hj
  obtain ⟨inf, hinf, _, hz1, _⟩ := info_parts hinfo
  simp [Instr.sliceAt, run_underlying ht, Instr.slice, Instr.sliceBounds, Instr.sliceBound, asIntOf, sizeOf, typeInfo, hinf, hc, Addr.add]
end Go.Cov


namespace Go.Cov
/-- byte number i of a number, the lowest is number 0 -/
def bt (n : Int) (i : Nat) : UInt8 := UInt8.ofNat (n / 2 ^ (8 * i) % 256).toNat
theorem bt_int (n : Int) (i : Nat) : ((bt n i).toNat : Int) = n / 2 ^ (8 * i) % 256 := by
  unfold bt
  have h0 : 0 ≤ n / 2 ^ (8 * i) % 256 := Int.emod_nonneg _ (by decide)
  have h1 : n / 2 ^ (8 * i) % 256 < 256 := Int.emod_lt_of_pos _ (by decide)
  generalize n / 2 ^ (8 * i) % 256 = m at h0 h1
  have : (UInt8.ofNat m.toNat).toNat = m.toNat % 256 := by simp
  rw [this]
  omega
/-- so many bytes of a number, the highest first -/
def be : Nat → Int → List UInt8
  | 0, _ => []
  | s + 1, n => bt n s :: be s n
theorem be_length : ∀ (s : Nat) (n : Int), (be s n).length = s
  | 0, _ => rfl
  | s + 1, n => by rw [be, List.length_cons, be_length s n]
theorem be_at : ∀ (s : Nat) (n : Int) (j : Nat), j < s → (be s n)[s - 1 - j]? = some (bt n j)
  | 0, _, _, h => by omega
  | s + 1, n, j, h => by
    by_cases hj : j = s
    · subst hj
      rw [show j + 1 - 1 - j = 0 by omega, be]; rfl
    · rw [show s + 1 - 1 - j = (s - 1 - j) + 1 by omega, be, List.getElem?_cons_succ]
      exact be_at s n j (by omega)
/-- the number that bytes make -/
def nat (l : List UInt8) : Nat := l.foldl (fun a c => a * 256 + c.toNat) 0
theorem nat_snoc (l : List UInt8) (c : UInt8) : nat (l ++ [c]) = nat l * 256 + c.toNat := by simp [nat]
end Go.Cov


namespace Go.Cov
open Go.RowKit
/-- the int64 that bytes make, the highest first -/
def gv (l : List UInt8) : Int := l.foldl (fun v c => wrap64 (v * 256 + c.toNat)) 0
theorem gv_snoc (l : List UInt8) (c : UInt8) : gv (l ++ [c]) = wrap64 (gv l * 256 + c.toNat) := by simp [gv]
theorem gv_step (l : List UInt8) (k : Nat) (h : k < l.length) : gv (l.take (k + 1)) = wrap64 (gv (l.take k) * 256 + l[k].toNat) := by
  rw [List.take_succ_eq_append_getElem h, gv_snoc]
theorem wrap_is (n : Int) : IntKind.i64.wrap n = wrap64 n := by
  simp only [wrap64, IntKind.wrap, IntKind.signed, IntKind.bits]
  simp
  omega
theorem or_step (v : Int) (x : UInt8) : bits .or .i64 (wrap64 (v * 256)) (wrap64 (x.toNat : Int)) = wrap64 (v * 256 + x.toNat) := by
  show IntKind.i64.wrap (((BitVec.ofInt 64 (wrap64 (v * 256)) ||| BitVec.ofInt 64 (wrap64 (x.toNat : Int))).toNat : Nat) : Int) = _
  have hx := x.toNat_lt
  rw [BitVec.toNat_or, BitVec.toNat_ofInt, BitVec.toNat_ofInt, wrap_is]
  obtain ⟨q, hq⟩ : ∃ q : Nat, (wrap64 (v * 256) % ((2 ^ 64 : Nat) : Int)).toNat = 2 ^ 8 * q := by
    refine ⟨(v % 72057594037927936).toNat, ?_⟩
    simp only [wrap64]
    omega
  have hb : (wrap64 (x.toNat : Int) % ((2 ^ 64 : Nat) : Int)).toNat = x.toNat := by
    simp only [wrap64]
    omega
  have hv : (2 ^ 8 * q : Nat) = (v * 256 % 18446744073709551616 : Int) := by
    rw [← hq]; simp only [wrap64]; omega
  rw [hq, hb, ← Nat.two_pow_add_eq_or_of_lt hx]
  simp only [wrap64]
  omega
theorem gv_nat (l : List UInt8) : gv l = wrap64 (nat l) := by
  suffices h : ∀ (l : List UInt8) (v : Int) (a : Nat), v = wrap64 a → l.foldl (fun v c => wrap64 (v * 256 + c.toNat)) v = wrap64 ((l.foldl (fun a c => a * 256 + c.toNat) a : Nat) : Int) from h l 0 0 (by simp [wrap64])
  intro l
  induction l with
  | nil => intro v a h; exact h
  | cons c l ih =>
    intro v a h
    simp only [List.foldl_cons]
    apply ih
    rw [h]
    simp only [wrap64]
    omega
theorem nat_lt (l : List UInt8) : nat l < 256 ^ l.length := by
  suffices h : ∀ (l : List UInt8) (a : Nat) (s : Nat), a < 256 ^ s → l.foldl (fun a c => a * 256 + c.toNat) a < 256 ^ (s + l.length) from by
    have := h l 0 0 (by simp); simpa [nat] using this
  intro l
  induction l with
  | nil => intro a s h; simpa using h
  | cons c l ih =>
    intro a s h
    simp only [List.foldl_cons, List.length_cons]
    have := ih (a * 256 + c.toNat) (s + 1) (by
      have hc := c.toNat_lt
      rw [Nat.pow_succ]
      omega)
    rw [show s + 1 + l.length = s + (l.length + 1) by omega] at this
    exact this
end Go.Cov


/-! what the functions of 'wire' answer, in plain lists and numbers -/
namespace Go.Cov
open Go.RowKit
/-- what 'get' answers -/
def getR (l : List UInt8) (a : Int) (s : Nat) : Int × Int × Int :=
  if a < 0 ∨ (l.length : Int) < a then (0, 0, 1) else if (l.length : Int) - a < s then (0, 0, 11) else (gv ((l.drop a.toNat).take s), a + s, 0)
/-- what 'Bool' makes of what 'get' answers -/
def boolOf (g : Int × Int × Int) : Bool × Int × Int :=
  if g.2.2 = 0 then (if 1 < g.1 then (false, 0, 12) else (g.1 == 1, g.2.1, 0)) else (false, 0, g.2.2)
/-- what 'Bool' answers -/
def boolR (l : List UInt8) (a : Int) : Bool × Int × Int := boolOf (getR l a 1)
/-- a truth's byte -/
def tb (b : Bool) : UInt8 := if b then 1 else 0
theorem be_tb (b : Bool) : be 1 (if b then 1 else 0) = [tb b] := by cases b <;> rfl
theorem gv_one (x : UInt8) : gv [x] = (x.toNat : Int) := by
  have := x.toNat_lt
  have e : nat [x] = x.toNat := by simp [nat]
  rw [gv_nat, e]
  simp only [wrap64]
  omega
theorem be_get (s : Nat) (n : Int) (k : Nat) (h : k < s) : (be s n).take (k + 1) = (be s n).take k ++ [bt n (s - 1 - k)] := by
  have hk : k < (be s n).length := by rw [be_length]; exact h
  rw [List.take_succ_eq_append_getElem hk]
  have := be_at s n (s - 1 - k) (by omega)
  rw [show s - 1 - (s - 1 - k) = k by omega, List.getElem?_eq_getElem hk] at this
  injection this with this
  rw [this]
/-- what 'sized' makes of what 'get' answers -/
def sizeOf' (g : Int × Int × Int) (most : Nat) : Int × Int × Int := if g.2.2 = 0 ∧ (most : Int) < g.1 then (0, 0, 2) else g
/-- what 'sized' answers -/
def sizeR (l : List UInt8) (a : Int) (most : Nat) : Int × Int × Int := sizeOf' (getR l a 4) most
/-- a text's bytes -/
def tx (s : List UInt8) : List UInt8 := be 4 s.length ++ s
/-- what 'Bytes' answers -/
def bytesR (l : List UInt8) (a : Int) : List UInt8 × Int × Int :=
  if (sizeR l a 65536).2.2 = 0 then
    (if (l.length : Int) - (sizeR l a 65536).2.1 < (sizeR l a 65536).1 then ([], 0, 11) else
      ((l.drop (sizeR l a 65536).2.1.toNat).take (sizeR l a 65536).1.toNat, (sizeR l a 65536).2.1 + (sizeR l a 65536).1, 0))
  else ([], 0, (sizeR l a 65536).2.2)
/-- ahead of the rest of a row -/
def preRow (acc : List (List UInt8)) (r : List (List UInt8) × Int × Int) : List (List UInt8) × Int × Int := if r.2.2 = 0 then (acc ++ r.1, r.2.1, 0) else ([], 0, r.2.2)
/-- so many texts that stand at a place -/
def rowGo (l : List UInt8) : Nat → Int → List (List UInt8) × Int × Int
  | 0, p => ([], p, 0)
  | n + 1, p => if (bytesR l p).2.2 = 0 then preRow [(bytesR l p).1] (rowGo l n (bytesR l p).2.1) else ([], 0, (bytesR l p).2.2)
/-- what 'Row' answers -/
def rowR (l : List UInt8) (a : Int) : List (List UInt8) × Int × Int :=
  if (sizeR l a 1024).2.2 = 0 then rowGo l (sizeR l a 1024).1.toNat (sizeR l a 1024).2.1 else ([], 0, (sizeR l a 1024).2.2)
/-- is no text of a row too long? -/
def fits (ls : List (List UInt8)) : Bool := ls.all fun s => decide (s.length ≤ 65536)
/-- a row's bytes -/
def rw' (ls : List (List UInt8)) : List UInt8 := be 4 ls.length ++ ls.flatMap tx
theorem tx_length (s : List UInt8) : (tx s).length = 4 + s.length := by simp [tx, be_length]
theorem getR_cases (l : List UInt8) (a : Int) (s : Nat) :
    (a < 0 ∨ (l.length : Int) < a) ∧ getR l a s = (0, 0, 1) ∨ (∃ k : Nat, a = k ∧ k ≤ l.length ∧ l.length < k + s) ∧ getR l a s = (0, 0, 11) ∨
    ∃ k : Nat, a = k ∧ k + s ≤ l.length ∧ getR l a s = (gv ((l.drop k).take s), (k : Int) + s, 0) := by
  by_cases h1 : a < 0 ∨ (l.length : Int) < a
  · left; exact ⟨h1, by rw [getR, if_pos h1]⟩
  · right
    obtain ⟨k, rfl⟩ : ∃ k : Nat, a = k := ⟨a.toNat, by omega⟩
    by_cases h2 : (l.length : Int) - k < s
    · left; exact ⟨⟨k, rfl, by omega, by omega⟩, by rw [getR, if_neg h1, if_pos h2]⟩
    · right; exact ⟨k, rfl, by omega, by rw [getR, if_neg h1, if_neg h2]; rfl⟩
theorem gv4 (l : List UInt8) (h : l.length ≤ 4) : gv l = (nat l : Int) ∧ nat l < 4294967296 := by
  have h1 := nat_lt l
  have h2 : 256 ^ l.length ≤ 256 ^ 4 := Nat.pow_le_pow_right (by decide) h
  have h3 : nat l < 4294967296 := by
    have : (256 : Nat) ^ 4 = 4294967296 := by decide
    omega
  refine ⟨?_, h3⟩
  rw [gv_nat]
  generalize nat l = m at h3
  simp only [wrap64]
  omega
theorem sizeR_cases (l : List UInt8) (a : Int) (most : Nat) :
    (∃ e : Int, (e = 1 ∨ e = 2 ∨ e = 11) ∧ sizeR l a most = (0, 0, e)) ∨
    ∃ k : Nat, a = k ∧ k + 4 ≤ l.length ∧ nat ((l.drop k).take 4) ≤ most ∧ sizeR l a most = ((nat ((l.drop k).take 4) : Int), (k : Int) + 4, 0) := by
  unfold sizeR
  rcases getR_cases l a 4 with ⟨_, h⟩ | ⟨_, h⟩ | ⟨k, hk, hl, h⟩
  · left; exact ⟨1, .inl rfl, by rw [h, sizeOf', if_neg (by simp)]⟩
  · left; exact ⟨11, .inr (.inr rfl), by rw [h, sizeOf', if_neg (by simp)]⟩
  · have hg := gv4 ((l.drop k).take 4) (by simp; omega)
    rw [h, hg.1]
    by_cases hm : (most : Int) < (nat ((l.drop k).take 4) : Int)
    · left; exact ⟨2, .inr (.inl rfl), by rw [sizeOf', if_pos ⟨rfl, hm⟩]⟩
    · right; exact ⟨k, hk, hl, by omega, by rw [sizeOf', if_neg (fun hh => hm hh.2)]; rfl⟩
theorem bytesR_cases (l : List UInt8) (a : Int) :
    (∃ e : Int, (e = 1 ∨ e = 2 ∨ e = 11) ∧ bytesR l a = ([], 0, e)) ∨
    ∃ k n : Nat, a = k ∧ n = nat ((l.drop k).take 4) ∧ n ≤ 65536 ∧ k + 4 + n ≤ l.length ∧ sizeR l a 65536 = ((n : Int), (k : Int) + 4, 0) ∧ bytesR l a = ((l.drop (k + 4)).take n, (k : Int) + 4 + n, 0) := by
  rcases sizeR_cases l a 65536 with ⟨e, he, h⟩ | ⟨k, hk, hl, hm, h⟩
  · left; refine ⟨e, he, ?_⟩
    rw [bytesR, h, if_neg (by rcases he with rfl | rfl | rfl <;> decide)]
  · generalize hn : nat ((l.drop k).take 4) = n at hm h
    by_cases h2 : (l.length : Int) - (k + 4) < n
    · left; exact ⟨11, .inr (.inr rfl), by rw [bytesR, h, if_pos rfl, if_pos h2]⟩
    · right; refine ⟨k, n, hk, hn.symm, hm, by omega, h, ?_⟩
      rw [bytesR, h, if_pos rfl, if_neg h2]
      rw [show ((k : Int) + 4).toNat = k + 4 by omega]
      rfl
theorem preRow_ok (acc : List (List UInt8)) (r : List (List UInt8)) (p : Int) : preRow acc (r, p, 0) = (acc ++ r, p, 0) := by simp [preRow]
theorem preRow_preRow (acc : List (List UInt8)) (x : List UInt8) (r : List (List UInt8) × Int × Int) : preRow acc (preRow [x] r) = preRow (acc ++ [x]) r := by
  obtain ⟨a, b, c⟩ := r
  by_cases h : c = 0
  · subst h; simp [preRow]
  · simp [preRow, h]
theorem preRow_nil (r : List (List UInt8) × Int × Int) (h : r.2.2 = 0 ∨ r.1 = [] ∧ r.2.1 = 0) : preRow [] r = r := by
  obtain ⟨a, b, c⟩ := r
  by_cases h0 : c = 0
  · subst h0; simp [preRow]
  · simp only [h0, false_or] at h
    obtain ⟨rfl, rfl⟩ := h
    simp [preRow, h0]
theorem rowGo_pre (l : List UInt8) (n : Nat) (p : Int) : preRow [] (rowGo l n p) = rowGo l n p := by
  cases n with
  | zero => simp [rowGo, preRow]
  | succ n =>
    rw [rowGo]
    by_cases h : (bytesR l p).2.2 = 0
    · rw [if_pos h, preRow_preRow]; rfl
    · rw [if_neg h, preRow, if_neg h]
theorem preRow_step {l : List UInt8} {acc : List (List UInt8)} {n k : Nat} {p q : Int} {x : List UInt8} (hk : k < n) (hb : bytesR l p = (x, q, 0)) : preRow acc (rowGo l (n - k) p) = preRow (acc ++ [x]) (rowGo l (n - (k + 1)) q) := by
  rw [show n - k = (n - (k + 1)) + 1 by omega, rowGo, hb, if_pos rfl, preRow_preRow]
theorem preRow_stop {l : List UInt8} {acc : List (List UInt8)} {n k : Nat} {p q er : Int} {x : List UInt8} (hk : k < n) (hb : bytesR l p = (x, q, er)) (he : er ≠ 0) : preRow acc (rowGo l (n - k) p) = ([], 0, er) := by
  rw [show n - k = (n - (k + 1)) + 1 by omega, rowGo, hb, if_neg he, preRow, if_neg he]
theorem preRow_len (acc : List (List UInt8)) (r : List (List UInt8) × Int × Int) : (preRow acc r).1.length ≤ acc.length + r.1.length := by
  unfold preRow; split <;> simp
theorem rowGo_len (l : List UInt8) : ∀ (n : Nat) (p : Int), (rowGo l n p).1.length ≤ n
  | 0, _ => by simp [rowGo]
  | n + 1, p => by
    rw [rowGo]
    split
    · have := preRow_len [(bytesR l p).1] (rowGo l n (bytesR l p).2.1)
      have := rowGo_len l n (bytesR l p).2.1
      simp only [List.length_cons, List.length_nil] at *
      omega
    · simp
theorem rowR_le (l : List UInt8) (a : Int) : (rowR l a).1.length ≤ 1024 := by
  rcases sizeR_cases l a 1024 with ⟨e, he, hz⟩ | ⟨k, rfl, hk, hm, hz⟩
  · rw [rowR, hz]
    rcases he with rfl | rfl | rfl <;> simp
  · rw [rowR, hz, if_pos rfl]
    exact Nat.le_trans (rowGo_len _ _ _) (by simpa using hm)
theorem rowR_len (l : List UInt8) (a : Int) : (rowR l a).1.length ≤ 140737488351236 := Nat.le_trans (rowR_le l a) (by decide)
/-- what 'PutRow' answers -/
def putRowR (ls : List (List UInt8)) : List UInt8 × Int := if ls.length ≤ 1024 ∧ fits ls = true then (rw' ls, 0) else ([], 2)
/-- what 'PutBytes' answers -/
def putBytesR (l : List UInt8) : List UInt8 × Int := if l.length ≤ 65536 then (tx l, 0) else ([], 2)
/-- a row's bytes up to a text -/
def rwTo (ls : List (List UInt8)) (k : Nat) : List UInt8 := be 4 ls.length ++ (ls.take k).flatMap tx
theorem rwTo_zero (ls : List (List UInt8)) : rwTo ls 0 = be 4 ls.length := by simp [rwTo]
theorem rwTo_all (ls : List (List UInt8)) : rwTo ls ls.length = rw' ls := by simp [rwTo, rw']
theorem rwTo_succ (ls : List (List UInt8)) (k : Nat) (h : k < ls.length) : rwTo ls (k + 1) = rwTo ls k ++ tx ls[k] := by
  rw [rwTo, List.take_succ_eq_append_getElem h, List.flatMap_append]; simp [rwTo]
theorem rwTo_le (ls : List (List UInt8)) : ∀ k, k ≤ ls.length → (∀ i, (h : i < ls.length) → i < k → ls[i].length ≤ 65536) → (rwTo ls k).length ≤ 4 + 65540 * k
  | 0, _, _ => by simp [rwTo, be_length]
  | k + 1, hk, h => by
    rw [rwTo_succ ls k (by omega), List.length_append, tx_length]
    have h1 := rwTo_le ls k (by omega) (fun i hi hlt => h i hi (by omega))
    have h2 := h k (by omega) (by omega)
    omega
theorem fits_of (ls : List (List UInt8)) (h : ∀ i, (h : i < ls.length) → ls[i].length ≤ 65536) : fits ls = true := by
  rw [fits, List.all_eq_true]
  intro s hs
  obtain ⟨i, hi, rfl⟩ := List.mem_iff_getElem.1 hs
  simpa using h i hi
theorem fits_at {ls : List (List UInt8)} (h : fits ls = true) (i : Nat) (hi : i < ls.length) : ls[i].length ≤ 65536 := by
  rw [fits, List.all_eq_true] at h
  simpa using h ls[i] (List.getElem_mem hi)
theorem putRowR_no {ls : List (List UInt8)} (i : Nat) (hi : i < ls.length) (h : 65536 < ls[i].length) : putRowR ls = ([], 2) := by
  rw [putRowR, if_neg]
  intro hh
  have := fits_at hh.2 i hi
  omega
theorem putRowR_ok {ls : List (List UInt8)} (hl : ls.length ≤ 1024) (h : ∀ i, (h : i < ls.length) → ls[i].length ≤ 65536) : putRowR ls = (rw' ls, 0) := by
  rw [putRowR, if_pos ⟨hl, fits_of ls h⟩]
theorem putRowR_many {ls : List (List UInt8)} (hl : 1024 < ls.length) : putRowR ls = ([], 2) := by
  rw [putRowR, if_neg (by omega)]
theorem wrap_of (n : Int) (h1 : -9223372036854775808 ≤ n) (h2 : n ≤ 9223372036854775807) : IntKind.i64.wrap n = n := by
  rw [wrap_is]; simp only [wrap64]; omega
theorem or_add (p x : Nat) (q : Nat) (hx : x < 2 ^ p) (hb : 2 ^ p * q + x < 4611686018427387904) : bits .or .i64 ((2 ^ p * q : Nat) : Int) (x : Int) = ((2 ^ p * q + x : Nat) : Int) := by
  show IntKind.i64.wrap (((BitVec.ofInt 64 ((2 ^ p * q : Nat) : Int) ||| BitVec.ofInt 64 (x : Int)).toNat : Nat) : Int) = _
  have h1 : (((2 ^ p * q : Nat) : Int) % ((2 ^ 64 : Nat) : Int)).toNat = 2 ^ p * q := by
    generalize 2 ^ p * q = m at hb
    omega
  have h2 : ((x : Int) % ((2 ^ 64 : Nat) : Int)).toNat = x := by omega
  rw [BitVec.toNat_or, BitVec.toNat_ofInt, BitVec.toNat_ofInt, h1, h2, ← Nat.two_pow_add_eq_or_of_lt hx]
  generalize 2 ^ p * q + x = m at hb
  exact wrap_of _ (by omega) (by omega)
end Go.Cov


/-! a slice of bytes as a value; a slice of such slices (over any program) -/
namespace Go.Cov
open Go.RowKit
theorem conv_bn {P : Program} {w : World} {src dst e : TypeId} (hs : P.underlying src = some (.slice e)) (he : P.underlying e = some (.int .u8)) (hd : P.underlying dst = some .string) {A : Option Addr} {l : List UInt8} (h : Rd w A (l.map byt)) (n cap : Nat) (hn : l.length = n) :
    (convert src dst (.slice A n cap)).run P w = .ok (.string (str l)) w := by
  subst hn
  exact conv_bs hs he hd h cap
theorem toList_str (l : List UInt8) : (str l).toList = l := by
  have : (str l).data.toList = l := by simp [str]
  rw [ByteArray.toList_eq]
  exact this
theorem str_eq (a : List UInt8) : ((str a).toList == (str a).toList) = true := by simp
theorem str_ne {a b : List UInt8} (h : a ≠ b) : ((str a).toList == (str b).toList) = false := by
  rw [toList_str, toList_str]; simpa using h
theorem str_beq (a b : List UInt8) : ((str a).toList == (str b).toList) = decide (a = b) := by
  rw [toList_str, toList_str]
  by_cases h : a = b
  · subst h; simp
  · rw [decide_eq_false h]; simpa using h
theorem below_alloc (w : World) (o : Obj) : Below w.heap.size w (w.alloc o) := (Below.refl _ _).alloc (Nat.le_refl _) o
theorem byt_one (l : List UInt8) : ∀ u ∈ l.map byt, u.oneCell' = true := by
  intro u hu
  obtain ⟨b, _, rfl⟩ := List.mem_map.1 hu
  rfl
/-- a box that a call made, whole -/
theorem own_box (w : World) (e : TypeId) (cs : Array Value) (n : Nat) (hn : cs.size = n) (hm : n ≤ maxLen) : (w.alloc (.cells cs e)).ownsRow w.heap.size e 1 (.slice (some ⟨w.heap.size, 0, none⟩) n n) n cs.toList := by
  subst hn
  exact ⟨by simp, .inr ⟨w.heap.size, cs.size, cs, rfl, Nat.le_refl _, heap_alloc_new w _, Nat.le_refl _, hm, by simp, by rw [Nat.mul_one]; exact List.take_of_length_le (by simp)⟩⟩
theorem rd_boxf (w : World) (cs : Array Value) (t : TypeId) (fr : Nat × Nat) : Rd (w.alloc (.cells cs t fr)) (some ⟨w.heap.size, 0, none⟩) cs.toList := by
  intro j u hj
  refine ⟨_, rfl, ?_⟩
  rw [add_none, cell_of_row (w.alloc (.cells cs t fr)) w.heap.size (0 + j) cs t fr (heap_alloc_new w _)]
  simpa using hj
theorem box_cell (w : World) (cs : Array Value) (t : TypeId) (i : Nat) (v : Value) (h : cs[i]? = some v) : (w.alloc (.cells cs t)).cell? ⟨w.heap.size, i, none⟩ = some v := by
  rw [cell_of_row (w.alloc (.cells cs t)) w.heap.size i cs t (0, 0) (heap_alloc_new w _)]
  exact h
/-- 'v is a slice that reads l' -/
def Sl (w : World) (v : Value) (l : List UInt8) : Prop := ∃ A c, v = .slice A l.length c ∧ l.length ≤ c ∧ c ≤ maxLen ∧ Rd w A (l.map byt)
theorem Sl.keep {w w' : World} {v : Value} {l : List UInt8} (h : Sl w v l) (hk : ∀ p u, w.cell? p = some u → w'.cell? p = some u) : Sl w' v l := by
  obtain ⟨A, c, h1, h2, h3, h4⟩ := h
  exact ⟨A, c, h1, h2, h3, h4.keep hk⟩
theorem Sl.below {w w' : World} {v : Value} {l : List UInt8} (h : Sl w v l) (hb : Below w.heap.size w w') : Sl w' v l := h.keep fun _ _ hc => (hb.cell (cell_lt hc)).trans hc
theorem Sl.len {w : World} {v : Value} {l : List UInt8} (h : Sl w v l) : l.length ≤ maxLen := by
  obtain ⟨A, c, _, h2, h3, _⟩ := h; omega
theorem own_sl {w : World} {base : Nat} {e : TypeId} {v : Value} {l : List UInt8} (h : w.ownsRow base e 1 v l.length (l.map byt)) : Sl w v l := by
  obtain ⟨A, c, rfl, h1, h2, _⟩ := own_shape h
  exact ⟨A, c, rfl, h1, h2, own_rd h⟩
/-- the cells from A on are slices that read these texts -/
def RowRd (w : World) (A : Option Addr) (ls : List (List UInt8)) : Prop := ∃ vs : List Value, Rd w A vs ∧ vs.length = ls.length ∧ ∀ (i : Nat) (l : List UInt8), ls[i]? = some l → ∃ v, vs[i]? = some v ∧ Sl w v l
theorem RowRd.keep {w w' : World} {A : Option Addr} {ls : List (List UInt8)} (h : RowRd w A ls) (hk : ∀ p u, w.cell? p = some u → w'.cell? p = some u) : RowRd w' A ls := by
  obtain ⟨vs, h1, h2, h3⟩ := h
  refine ⟨vs, h1.keep hk, h2, fun i l hl => ?_⟩
  obtain ⟨v, hv, hs⟩ := h3 i l hl
  exact ⟨v, hv, hs.keep hk⟩
theorem RowRd.below {w w' : World} {A : Option Addr} {ls : List (List UInt8)} (h : RowRd w A ls) (hb : Below w.heap.size w w') : RowRd w' A ls := h.keep fun _ _ hc => (hb.cell (cell_lt hc)).trans hc
theorem RowRd.at' {w : World} {A : Option Addr} {ls : List (List UInt8)} (h : RowRd w A ls) (i : Nat) (hi : i < ls.length) :
    ∃ ad B c, A = some ad ∧ w.cell? (ad.add i) = some (.slice B ls[i].length c) ∧ ls[i].length ≤ c ∧ c ≤ maxLen ∧ Rd w B (ls[i].map byt) := by
  obtain ⟨vs, h1, h2, h3⟩ := h
  obtain ⟨v, hv, B, c, rfl, hc, hm, hr⟩ := h3 i ls[i] (List.getElem?_eq_getElem hi)
  obtain ⟨ad, hA, hcell⟩ := h1 i _ hv
  exact ⟨ad, B, c, hA, hcell, hc, hm, hr⟩
theorem rd_grown {w w' : World} {A : Option Addr} {xs : List Value} {row : Option Nat} (h : Rd w A xs) (hg : w.grownBy w' row) (hne : ∀ ad, A = some ad → some ad.block ≠ row) : Rd w' A xs := fun j u hj => by
  obtain ⟨ad, hA, hc⟩ := h j u hj
  exact ⟨ad, hA, hg.cell hc (by rw [block_add]; exact hne ad hA)⟩
/-- a slice of slices that the call owns; what its cells lead to lies outside its own block -/
def OwnRows (w : World) (base : Nat) (e : TypeId) (v : Value) (ls : List (List UInt8)) : Prop :=
  ∃ vs : List Value, w.ownsRow base e 1 v ls.length vs ∧ ∀ (i : Nat) (l : List UInt8), ls[i]? = some l → ∃ A c, vs[i]? = some (.slice A l.length c) ∧ l.length ≤ c ∧ c ≤ maxLen ∧ Rd w A (l.map byt) ∧ ∀ ad, A = some ad → base ≤ ad.block ∧ ad.block < w.heap.size ∧ some ad.block ≠ v.ownBlock
theorem OwnRows.nil (w : World) (base : Nat) (e : TypeId) : OwnRows w base e (.slice none 0 0) [] := ⟨[], World.ownsRow_nil _ _ _ _, fun i l h => by simp at h⟩
theorem OwnRows.rd {w : World} {base : Nat} {e : TypeId} {v : Value} {ls : List (List UInt8)} (h : OwnRows w base e v ls) : ∃ A c, v = .slice A ls.length c ∧ ls.length ≤ c ∧ c ≤ maxLen ∧ RowRd w A ls := by
  obtain ⟨vs, h1, h2⟩ := h
  obtain ⟨A, c, rfl, hc, hm, _⟩ := own_shape h1
  refine ⟨A, c, rfl, hc, hm, vs, own_rd h1, by have := h1.1; omega, fun i l hl => ?_⟩
  obtain ⟨B, d, hv, h3, h4, h5, _⟩ := h2 i l hl
  exact ⟨_, hv, B, d, rfl, h3, h4, h5⟩
theorem OwnRows.below {w w' : World} {base : Nat} {e : TypeId} {v : Value} {ls : List (List UInt8)} (h : OwnRows w base e v ls) (hb : Below w.heap.size w w') : OwnRows w' base e v ls := by
  obtain ⟨vs, h1, h2⟩ := h
  refine ⟨vs, own_below h1 hb, fun i l hl => ?_⟩
  obtain ⟨B, d, hv, h3, h4, h5, h6⟩ := h2 i l hl
  exact ⟨B, d, hv, h3, h4, h5.below hb, fun ad hB => ⟨(h6 ad hB).1, Nat.lt_of_lt_of_le (h6 ad hB).2.1 hb.size, (h6 ad hB).2.2⟩⟩
theorem OwnRows.mono {w : World} {base base' : Nat} {e : TypeId} {v : Value} {ls : List (List UInt8)} (h : OwnRows w base e v ls) (hb : base' ≤ base) : OwnRows w base' e v ls := by
  obtain ⟨vs, h1, h2⟩ := h
  refine ⟨vs, own_mono h1 hb, fun i l hl => ?_⟩
  obtain ⟨B, d, hv, h3, h4, h5, h6⟩ := h2 i l hl
  exact ⟨B, d, hv, h3, h4, h5, fun ad hB => ⟨Nat.le_trans hb (h6 ad hB).1, (h6 ad hB).2⟩⟩
/-- kept behind a write into a block below its own -/
theorem OwnRows.kept {w w' : World} {base : Nat} {e : TypeId} {v : Value} {ls : List (List UInt8)} {row : Option Nat} (h : OwnRows w base e v ls) (hg : w.grownBy w' row) (hr : ∀ g, row = some g → g < base) : OwnRows w' base e v ls := by
  obtain ⟨vs, h1, h2⟩ := h
  refine ⟨vs, h1.kept hg ?_, fun i l hl => ?_⟩
  · cases hv : v.ownBlock with
    | none => exact .inl rfl
    | some k => right; intro hh; have := hr k hh.symm; have := (own_lt h1 hv).1; omega
  · obtain ⟨B, d, hv, h3, h4, h5, h6⟩ := h2 i l hl
    refine ⟨B, d, hv, h3, h4, rd_grown h5 hg (fun ad hB hh => ?_), fun ad hB => ⟨(h6 ad hB).1, Nat.lt_of_lt_of_le (h6 ad hB).2.1 hg.size, (h6 ad hB).2.2⟩⟩
    have := hr _ hh.symm
    have := (h6 ad hB).1
    omega
/-- a row of cells kept behind a write into a block below its own -/
theorem own_keep {w w' : World} {base : Nat} {e : TypeId} {size : Nat} {v : Value} {n : Nat} {xs : List Value} {row : Option Nat} (h : w.ownsRow base e size v n xs) (hg : w.grownBy w' row) (hr : ∀ g, row = some g → g < base) : w'.ownsRow base e size v n xs := h.kept hg (by
  cases hv : v.ownBlock with
  | none => exact .inl rfl
  | some k => right; intro hh; have := hr k hh.symm; have := (own_lt h hv).1; omega)
/-- what 'append(out, s)' leaves: s a slice that lies outside out's block -/
theorem OwnRows.app {w w1 : World} {base : Nat} {e : TypeId} {v v' : Value} {ls : List (List UInt8)} {vs : List Value} {l : List UInt8} {A : Option Addr} {c : Nat}
    (h2 : ∀ (i : Nat) (l : List UInt8), ls[i]? = some l → ∃ A c, vs[i]? = some (.slice A l.length c) ∧ l.length ≤ c ∧ c ≤ maxLen ∧ Rd w A (l.map byt) ∧ ∀ ad, A = some ad → base ≤ ad.block ∧ ad.block < w.heap.size ∧ some ad.block ≠ v.ownBlock)
    (hvl : vs.length = ls.length) (ho : w1.ownsRow base e 1 v' (ls.length + 1) (vs ++ [.slice A l.length c])) (hg : w.grownBy w1 v.ownBlock) (hat : v'.ownBlock = v.ownBlock ∨ v'.ownBlock = some w.heap.size)
    (hc : l.length ≤ c) (hm : c ≤ maxLen) (hr : Rd w A (l.map byt)) (hne : ∀ ad, A = some ad → base ≤ ad.block ∧ ad.block < w.heap.size ∧ some ad.block ≠ v.ownBlock) : OwnRows w1 base e v' (ls ++ [l]) := by
  have hnew : ∀ ad : Addr, base ≤ ad.block ∧ ad.block < w.heap.size ∧ some ad.block ≠ v.ownBlock → base ≤ ad.block ∧ ad.block < w1.heap.size ∧ some ad.block ≠ v'.ownBlock := by
    intro ad ⟨h0, h1, h3⟩
    refine ⟨h0, Nat.lt_of_lt_of_le h1 hg.size, fun he => ?_⟩
    rcases hat with h4 | h4
    · rw [h4] at he; exact h3 he
    · rw [h4] at he; injection he with he; omega
  refine ⟨_, by simpa using ho, fun i x hx => ?_⟩
  by_cases hi : i < ls.length
  · rw [List.getElem?_append_left hi] at hx
    obtain ⟨B, d, hv, h3, h4, h5, h6⟩ := h2 i x hx
    exact ⟨B, d, by rw [List.getElem?_append_left (by omega)]; exact hv, h3, h4, rd_grown h5 hg (fun ad hB => (h6 ad hB).2.2), fun ad hB => hnew ad (h6 ad hB)⟩
  · rw [List.getElem?_append_right (by omega)] at hx
    have hi0 : i - ls.length = 0 := by
      rcases Nat.eq_zero_or_pos (i - ls.length) with h | h
      · exact h
      · rw [List.getElem?_eq_none (by simp; omega)] at hx; cases hx
    rw [hi0] at hx
    injection hx with hx
    subst hx
    refine ⟨A, c, ?_, hc, hm, rd_grown hr hg (fun ad hA => (hne ad hA).2.2), fun ad hA => hnew ad (hne ad hA)⟩
    rw [List.getElem?_append_right (by omega), hvl, hi0]; rfl
end Go.Cov


/-! slices of structs whose fields are one cell each, some of them slices of bytes (over any program) -/
namespace Go.Cov
open Go.RowKit
/-- how an element lies: its cells, and the slices of bytes among them with what they read -/
structure El (α : Type) where
  sz : Nat
  cells : α → List Value
  cons : α → List (Value × List UInt8)
  len : ∀ a, (cells a).length = sz
  one : ∀ a, ∀ u ∈ cells a, u.oneCell' = true
  pos : 0 < sz
section
variable {α : Type} {T : El α} {w w' : World} {A : Option Addr} {xs ys : List α}
theorem El.flat_len (T : El α) (xs : List α) : (xs.flatMap T.cells).length = xs.length * T.sz := by
  induction xs with
  | nil => simp
  | cons x xs ih => rw [List.flatMap_cons, List.length_append, ih, T.len, List.length_cons, Nat.add_mul]; omega
theorem El.flat_one (T : El α) (xs : List α) : ∀ u ∈ xs.flatMap T.cells, u.oneCell' = true := by
  intro u hu
  obtain ⟨a, _, ha⟩ := List.mem_flatMap.1 hu
  exact T.one a u ha
theorem El.flat_at (T : El α) (xs : List α) (i j : Nat) (hi : i < xs.length) (u : Value) (hu : (T.cells xs[i])[j]? = some u) : (xs.flatMap T.cells)[i * T.sz + j]? = some u := by
  induction xs generalizing i with
  | nil => simp at hi
  | cons x xs ih =>
    rw [List.flatMap_cons]
    cases i with
    | zero =>
      have hj : j < (T.cells x).length := (List.getElem?_eq_some_iff.1 hu).1
      rw [Nat.zero_mul, Nat.zero_add, List.getElem?_append_left hj]
      exact hu
    | succ i =>
      rw [List.getElem?_append_right (by rw [T.len, Nat.add_mul]; omega), T.len]
      rw [show (i + 1) * T.sz + j - T.sz = i * T.sz + j by rw [Nat.add_mul]; omega]
      exact ih i (by simpa using hi) hu
theorem El.flat_drop (T : El α) (xs : List α) (k : Nat) : (xs.drop k).flatMap T.cells = (xs.flatMap T.cells).drop (k * T.sz) := by
  induction xs generalizing k with
  | nil => simp
  | cons x xs ih =>
    cases k with
    | zero => simp
    | succ k =>
      have e : (k + 1) * T.sz - T.sz = k * T.sz := by rw [Nat.add_mul]; omega
      conv => rhs; rw [List.flatMap_cons, List.drop_append, List.drop_of_length_le (by rw [T.len, Nat.add_mul]; omega), T.len, List.nil_append, e]
      rw [List.drop_succ_cons, ih]
theorem El.flat_take (T : El α) (xs : List α) (k : Nat) : (xs.take k).flatMap T.cells = (xs.flatMap T.cells).take (k * T.sz) := by
  induction xs generalizing k with
  | nil => simp
  | cons x xs ih =>
    cases k with
    | zero => simp
    | succ k =>
      have e : (k + 1) * T.sz - T.sz = k * T.sz := by rw [Nat.add_mul]; omega
      conv => rhs; rw [List.flatMap_cons, List.take_append, List.take_of_length_le (by rw [T.len, Nat.add_mul]; omega), T.len, e]
      rw [List.take_succ_cons, List.flatMap_cons, ih]
/-- the elements xs lie from A on -/
def Els (T : El α) (w : World) (A : Option Addr) (xs : List α) : Prop := Rd w A (xs.flatMap T.cells) ∧ ∀ a ∈ xs, ∀ p ∈ T.cons a, Sl w p.1 p.2
theorem Els.nil (T : El α) (w : World) (A : Option Addr) : Els T w A [] := ⟨by simpa using Rd.nil w A, fun a h => by simp at h⟩
theorem Els.keep (h : Els T w A xs) (hk : ∀ p u, w.cell? p = some u → w'.cell? p = some u) : Els T w' A xs := ⟨h.1.keep hk, fun a ha p hp => (h.2 a ha p hp).keep hk⟩
theorem Els.below (h : Els T w A xs) (hb : Below w.heap.size w w') : Els T w' A xs := h.keep fun _ _ hc => (hb.cell (cell_lt hc)).trans hc
theorem Els.at' (h : Els T w A xs) (i : Nat) (hi : i < xs.length) : ∃ ad, A = some ad ∧ (∀ j u, (T.cells xs[i])[j]? = some u → w.cell? ((ad.add (i * T.sz)).add j) = some u) ∧ ∀ p ∈ T.cons xs[i], Sl w p.1 p.2 := by
  have h0 : 0 < (T.cells xs[i]).length := by rw [T.len]; exact T.pos
  obtain ⟨u0, hu0⟩ : ∃ u, (T.cells xs[i])[0]? = some u := ⟨_, List.getElem?_eq_getElem h0⟩
  obtain ⟨ad, hA, _⟩ := h.1 _ _ (T.flat_at xs i 0 hi u0 hu0)
  refine ⟨ad, hA, fun j u hj => ?_, h.2 _ (List.getElem_mem hi)⟩
  obtain ⟨ad', hA', hc⟩ := h.1 _ _ (T.flat_at xs i j hi u hj)
  rw [hA] at hA'
  cases hA'
  rw [add_add']
  exact hc
theorem Els.cut (h : Els T w A xs) (k : Nat) {c : Nat} (hc : xs.length ≤ c) : Els T w (cutA A c k T.sz) (xs.drop k) := by
  refine ⟨?_, fun a ha => h.2 a (List.mem_of_mem_drop ha)⟩
  rw [El.flat_drop]
  exact h.1.cutA k T.sz (by rw [El.flat_len]; exact Nat.mul_le_mul_right _ hc)
theorem Els.take (h : Els T w A xs) (k : Nat) : Els T w A (xs.take k) := by
  refine ⟨?_, fun a ha => h.2 a (List.mem_of_mem_take ha)⟩
  rw [El.flat_take]
  exact h.1.take _
/-- a slice kept behind a write elsewhere -/
theorem Sl.grown {p : Value} {l : List UInt8} {row : Option Nat} (h : Sl w p l) (hg : w.grownBy w' row) (hne : l ≠ [] → row ≠ none → p.ownBlock ≠ row) : Sl w' p l := by
  obtain ⟨A, c, rfl, h1, h2, h3⟩ := h
  refine ⟨A, c, rfl, h1, h2, fun j u hj => ?_⟩
  obtain ⟨ad, hA, hc⟩ := h3 j u hj
  subst hA
  refine ⟨ad, rfl, hg.cell hc (fun he => ?_)⟩
  rw [block_add] at he
  refine hne (fun hl => by subst hl; simp at hj) (fun hr => by rw [hr] at he; cases he) ?_
  exact he
theorem Sl.lt {p : Value} {l : List UInt8} (h : Sl w p l) (hl : l ≠ []) {k : Nat} (hk : p.ownBlock = some k) : k < w.heap.size := by
  obtain ⟨A, c, rfl, _, _, h3⟩ := h
  cases l with
  | nil => exact absurd rfl hl
  | cons x l =>
    obtain ⟨ad, rfl, hc⟩ := h3 0 (byt x) rfl
    have := cell_lt hc
    rw [block_add] at this
    simp only [Value.ownBlock] at hk
    injection hk with hk
    omega
/-- what the cells lead to lies outside v's block -/
def Off (T : El α) (w : World) (v : Value) (xs : List α) : Prop := ∀ a ∈ xs, ∀ p ∈ T.cons a, Sl w p.1 p.2 ∧ (p.2 ≠ [] → v.ownBlock ≠ none → p.1.ownBlock ≠ v.ownBlock)
theorem Off.below {v : Value} (h : Off T w v xs) (hb : Below w.heap.size w w') : Off T w' v xs := fun a ha p hp => ⟨(h a ha p hp).1.below hb, (h a ha p hp).2⟩
/-- all that was there before v's block -/
theorem Off.old {v : Value} (h : ∀ a ∈ xs, ∀ p ∈ T.cons a, Sl w p.1 p.2) (hb : Below w.heap.size w w') (hv : ∀ k, v.ownBlock = some k → w.heap.size ≤ k) : Off T w' v xs := fun a ha p hp => by
  refine ⟨(h a ha p hp).below hb, fun hl hn he => ?_⟩
  obtain ⟨k, hk⟩ := Option.ne_none_iff_exists'.1 hn
  have h1 := hv k hk
  have h2 := (h a ha p hp).lt hl (he.trans hk)
  omega
/-- a slice of structs that the call owns -/
def OwnEls (T : El α) (w : World) (base : Nat) (e : TypeId) (v : Value) (xs : List α) : Prop := w.ownsRow base e T.sz v xs.length (xs.flatMap T.cells) ∧ Off T w v xs
theorem OwnEls.nil (T : El α) (w : World) (base : Nat) (e : TypeId) : OwnEls T w base e (.slice none 0 0) [] := ⟨by simpa using World.ownsRow_nil w base e T.sz, fun a h => by simp at h⟩
variable {base : Nat} {e : TypeId} {v : Value}
theorem OwnEls.rd (h : OwnEls T w base e v xs) : ∃ A c, v = .slice A xs.length c ∧ xs.length ≤ c ∧ c ≤ maxLen ∧ Els T w A xs := by
  obtain ⟨A, c, rfl, hc, hm, _⟩ := own_shape h.1
  exact ⟨A, c, rfl, hc, hm, own_rd h.1, fun a ha p hp => (h.2 a ha p hp).1⟩
theorem OwnEls.below (h : OwnEls T w base e v xs) (hb : Below w.heap.size w w') : OwnEls T w' base e v xs := ⟨own_below h.1 hb, h.2.below hb⟩
theorem OwnEls.mono {base' : Nat} (h : OwnEls T w base e v xs) (hb : base' ≤ base) : OwnEls T w base' e v xs := ⟨own_mono h.1 hb, h.2⟩
theorem OwnEls.lt (h : OwnEls T w base e v xs) {k : Nat} (hk : v.ownBlock = some k) : base ≤ k ∧ k < w.heap.size := own_lt h.1 hk
/-- what 'append(out, ys..)' leaves -/
theorem OwnEls.app {w1 : World} {v' : Value} (h : Off T w v xs) (hy : Off T w v ys) (ho : w1.ownsRow base e T.sz v' (xs.length + ys.length) (xs.flatMap T.cells ++ ys.flatMap T.cells)) (hg : w.grownBy w1 v.ownBlock)
    (hat : v'.ownBlock = v.ownBlock ∨ v'.ownBlock = some w.heap.size) : OwnEls T w1 base e v' (xs ++ ys) := by
  refine ⟨by rw [List.length_append, List.flatMap_append]; exact ho, fun a ha p hp => ?_⟩
  have hh : Sl w p.1 p.2 ∧ (p.2 ≠ [] → v.ownBlock ≠ none → p.1.ownBlock ≠ v.ownBlock) := by
    rcases List.mem_append.1 ha with ha | ha
    · exact h a ha p hp
    · exact hy a ha p hp
  refine ⟨hh.1.grown hg (fun hl hn => hh.2 hl hn), fun hl hn he => ?_⟩
  rcases hat with h4 | h4
  · rw [h4] at he hn; exact hh.2 hl hn he
  · have := hh.1.lt hl (he.trans h4); omega
end
end Go.Cov


/-! 'append' with the word where the new slice lies; rows whose elements are somebody's. Over any program. -/
namespace Go.Cov
open Go.RowKit
theorem oper_app2 {P : Program} {w : World} {ops : Array Oper} {o : Oper} {a : Act} {K : Act → World → Prop} {Q : Exit → Act → World → Prop} (hw : Region.wanted o (yielded ops a.tmps) = true) (s x : Operand) (t : TypeId)
    (ho : o.op = .call { callee := .builtin .append, args := #[s, x], argTypes := #[t, t] })
    (base : Nat) (e : TypeId) {z : Value} {size bytes : Nat} (ht : P.underlying t = some (.slice e)) (hinfo : (P.info? e).map (fun i => (i.zero, i.size, i.bytes)) = some (some z, size, bytes))
    (hzs : z.cells.size = size) (hsz : 0 < size)
    (v : Value) (n : Nat) (xs : List Value) (hs : a.eval s = v) (hown : w.ownsRow base e size v n xs)
    (A : Option Addr) (m c : Nat) (news : List Value) (hx : a.eval x = .slice A m c) (hl : news.length = m * size) (hr : Rd w A news) (h1 : ∀ u ∈ news, u.oneCell' = true)
    (h63 : (n + m) * bytes ≤ 140737488355328) (h64 : n + m ≤ 140737488355328) (hbase : base ≤ w.heap.size)
    (h : ∀ v' w', w'.ownsRow base e size v' (n + m) (xs ++ news) → w.grownBy w' v.ownBlock → (v'.ownBlock = v.ownBlock ∨ v'.ownBlock = some w.heap.size) → K (a.put o.dst v') w') :
    if Region.wanted o (yielded ops a.tmps) = true then Oper.wp P o a w K Q else K (a.put o.dst undef) w := by
  obtain ⟨i, hi, hz0, hz1, hz2⟩ := info_parts hinfo
  rw [if_pos hw]
  by_cases hA : A = none
  · subst hA
    have hnews : news = [] := by
      cases news with
      | nil => rfl
      | cons y l => obtain ⟨ad, hn, _⟩ := hr 0 y rfl; cases hn
    subst hnews
    have hm : m = 0 := by
      rcases Nat.eq_zero_or_pos m with h0 | h0
      · exact h0
      · have := Nat.mul_pos h0 hsz
        simp at hl
        omega
    subst hm
    have hrun : (Builtin.append_ #[t, t] o.type #[v, .slice none 0 c]).run P w = .ok v w := by
      rcases hown.2 with ⟨rfl, rfl⟩ | ⟨g, cap, cur, rfl, _, _, hnc, _⟩
      · simp [Builtin.append_, run_underlying ht, sizeOf, typeInfo, hi, Builtin.lenOf, Builtin.firstCells]
      · simp [Builtin.append_, run_underlying ht, sizeOf, typeInfo, hi, Builtin.lenOf, Builtin.firstCells, hnc, storeCells]
    unfold Oper.wp execOp
    simp only [ho, resolve, invoke, builtin, Sem.run_bind, Sem.run_pure, Result.andThen_ok, List.map_toArray, List.map_cons, List.map_nil, hs, hx, hrun]
    exact h v w (by simpa using hown) (World.grownBy.refl w _) (.inl rfl)
  · obtain ⟨ad, rfl⟩ : ∃ ad, A = some ad := by cases A with
      | none => exact absurd rfl hA
      | some ad => exact ⟨ad, rfl⟩
    have hcells : ∀ j u, news[j]? = some u → w.cell? (ad.add j) = some u := by
      intro j u hj
      obtain ⟨ad', he, hc⟩ := hr j u hj
      cases he
      exact hc
    obtain ⟨v', w', hrun, h2, h3, _, h5⟩ := run_append_own_at (P := P) w base t o.type e i z size bytes ht hi hz0 hz1 hz2 hzs hsz v n xs hown ad m c news hl hcells h1 (by simp only [maxLen]; omega) h63 hbase
    unfold Oper.wp execOp
    simp only [ho, resolve, invoke, builtin, Sem.run_bind, Sem.run_pure, Result.andThen_ok, List.map_toArray, List.map_cons, List.map_nil, hs, hx, hrun]
    exact h v' w' h2 h3 h5
/-- a slice of bytes as an element -/
structure SlR where
  A : Option Addr
  c : Nat
  l : List UInt8
deriving Inhabited
def SlR.val (a : SlR) : Value := .slice a.A a.l.length a.c
def slEl : El SlR where
  sz := 1
  cells := fun a => [a.val]
  cons := fun a => [(a.val, a.l)]
  len := fun _ => rfl
  one := fun a u hu => by
    rw [List.mem_singleton.1 hu]; rfl
  pos := by decide
theorem slEl_row {w : World} {A : Option Addr} {xs : List SlR} (h : Els slEl w A xs) : RowRd w A (xs.map SlR.l) := by
  refine ⟨xs.map SlR.val, ?_, by simp, fun i l hl => ?_⟩
  · have e : ∀ l : List SlR, l.flatMap slEl.cells = l.map SlR.val := fun l => by
      induction l with
      | nil => rfl
      | cons x l ih => rw [List.flatMap_cons, ih]; rfl
    have := h.1
    rwa [e] at this
  · rw [List.getElem?_map] at hl
    obtain ⟨a, ha, rfl⟩ := Option.map_eq_some_iff.1 hl
    exact ⟨a.val, by rw [List.getElem?_map, ha]; rfl, h.2 a (List.mem_of_getElem? ha) (a.val, a.l) (by simp [slEl])⟩
end Go.Cov


/-! In a region whose order is open: behind a call that made memory the condition on the world may be strengthened, so that what reads the new memory is taken first. Over any program. -/
namespace Go.Cov
open Go.RowKit
theorem below_step {a b c : World} (h : Below a.heap.size a b) (k : Below b.heap.size b c) : Below a.heap.size a c := h.trans (k.mono h.size)
section
variable {P : Program} {ops : Array Oper} {Q : Exit → Act → World → Prop} {md : Region.Mode} {S S' : World → Prop}
theorem wpAnyH_weak (hS : ∀ w, S' w → S w) : ∀ (fuel : Nat) (listed : Array Bool) (a : Act) (w : World), wpAnyH P md ops Q S' fuel listed a w → wpAnyH P md ops Q S fuel listed a w
  | 0, _, _, _, h => h
  | fuel + 1, _, _, _, h => ⟨h.1, fun i hi => wpOp_mono (fun a' w' h' => ⟨hS _ h'.1, wpAnyH_weak hS fuel _ a' w' h'.2⟩) (h.2 i hi)⟩
theorem wpAnyH_turn {fuel : Nat} {listed : Array Bool} {a : Act} {w : World} (hS : S w) (h : S w ∧ Below w.heap.size w w → wpAnyH P md ops Q (fun W => S W ∧ Below w.heap.size w W) fuel listed a w) : wpAnyH P md ops Q S fuel listed a w :=
  wpAnyH_weak (fun _ h => h.1) _ _ _ _ (h ⟨hS, Below.refl _ _⟩)
end
theorem newvar_K {K : Act → World → Prop} {a : Act} {W : World} {cs : Array Value} {t : TypeId}
    (h : ∀ wx, Below W.heap.size W wx → (∀ i v, cs[i]? = some v → wx.cell? ⟨W.heap.size, i, none⟩ = some v) → (∀ i, wx.frozen? ⟨W.heap.size, i, none⟩ = false) → W.heap.size < wx.heap.size → K a wx) : K a (W.alloc (.cells cs t)) := by
  refine h _ ((Below.refl _ _).alloc (Nat.le_refl _) _) (fun i v hv => ?_) (fun i => World.frozen?_alloc_new (w := W) cs t i) (by simp)
  rw [cell_of_row (W.alloc (.cells cs t)) W.heap.size i cs t (0, 0) (heap_alloc_new W _)]
  exact hv
theorem newvar_Kd {K : Act → World → Prop} {a : Act} {W : World} {cs : Array Value} {t : TypeId}
    (h : ∀ wx, Below W.drew.heap.size W.drew wx → (∀ i v, cs[i]? = some v → wx.cell? ⟨W.heap.size, i, none⟩ = some v) → (∀ i, wx.frozen? ⟨W.heap.size, i, none⟩ = false) → W.heap.size < wx.heap.size → K a wx) : K a (W.alloc (.cells cs t)).drew := by
  have h0 := (Below.refl W.heap.size W).alloc (Nat.le_refl _) (.cells cs t)
  refine h _ ⟨h0.os, h0.tape, h0.output, h0.size, h0.block⟩ (fun i v hv => ?_) (fun i => World.frozen?_alloc_new (w := W) cs t i) (by simp)
  show (W.alloc (.cells cs t)).cell? _ = _
  rw [cell_of_row (W.alloc (.cells cs t)) W.heap.size i cs t (0, 0) (heap_alloc_new W _)]
  exact hv
theorem set3_cells {w : World} {b : Nat} {x0 x1 x2 : Value} (h0 : w.cell? ⟨b, 0, none⟩ = some x0) (h1 : w.cell? ⟨b, 1, none⟩ = some x1) (h2 : w.cell? ⟨b, 2, none⟩ = some x2) (y0 y1 y2 : Value) :
    (((w.setCell ⟨b, 0, none⟩ y0).setCell ⟨b, 1, none⟩ y1).setCell ⟨b, 2, none⟩ y2).cell? ⟨b, 0, none⟩ = some y0 ∧ (((w.setCell ⟨b, 0, none⟩ y0).setCell ⟨b, 1, none⟩ y1).setCell ⟨b, 2, none⟩ y2).cell? ⟨b, 1, none⟩ = some y1 ∧ (((w.setCell ⟨b, 0, none⟩ y0).setCell ⟨b, 1, none⟩ y1).setCell ⟨b, 2, none⟩ y2).cell? ⟨b, 2, none⟩ = some y2 := by
  refine ⟨?_, ?_, ?_⟩
  · rw [World.cell?_setCell_other _ _ _ _ (by simp), World.cell?_setCell_other _ _ _ _ (by simp)]
    exact World.cell?_setCell_same' _ _ _ (by rw [h0]; rfl)
  · rw [World.cell?_setCell_other _ _ _ _ (by simp)]
    exact World.cell?_setCell_same' _ _ _ (by rw [World.cell?_setCell_other _ _ _ _ (by simp), h1]; rfl)
  · exact World.cell?_setCell_same' _ _ _ (by rw [World.cell?_setCell_other _ _ _ _ (by simp), World.cell?_setCell_other _ _ _ _ (by simp), h2]; rfl)
end Go.Cov


/-! pairs of slices of bytes in a slice; comparing bytes. Over any program. -/
namespace Go.Cov
open Go.RowKit
structure Pr where
  kA : Option Addr
  kc : Nat
  k : List UInt8
  vA : Option Addr
  vc : Nat
  v : List UInt8
deriving Inhabited
def Pr.key (a : Pr) : Value := .slice a.kA a.k.length a.kc
def Pr.val (a : Pr) : Value := .slice a.vA a.v.length a.vc
def Pr.data (a : Pr) : List UInt8 × List UInt8 := (a.k, a.v)
def prEl : El Pr where
  sz := 2
  cells := fun a => [a.key, a.val]
  cons := fun a => [(a.key, a.k), (a.val, a.v)]
  len := fun _ => rfl
  one := fun a u hu => by
    rcases List.mem_cons.1 hu with rfl | hu
    · rfl
    · rw [List.mem_singleton.1 hu]; rfl
  pos := by decide
theorem pr_rd {w : World} {a : Pr} (h : ∀ p ∈ prEl.cons a, Sl w p.1 p.2) : Rd w a.kA (a.k.map byt) ∧ Rd w a.vA (a.v.map byt) := by
  constructor
  · obtain ⟨A, c, he, _, _, hr⟩ := h (a.key, a.k) (by simp [prEl])
    unfold Pr.key at he
    injection he with h1 h2 h3
    rw [h1]; exact hr
  · obtain ⟨A, c, he, _, _, hr⟩ := h (a.val, a.v) (by simp [prEl])
    unfold Pr.val at he
    injection he with h1 h2 h3
    rw [h1]; exact hr
theorem add_zero' (a : Addr) : a.add 0 = a := by simp [Addr.add]
/-- an element of a slice of pairs -/
theorem pr_at {w : World} {A : Option Addr} {xs : List Pr} (h : Els prEl w A xs) (i : Nat) (hi : i < xs.length) :
    ∃ ad, A = some ad ∧ w.cell? (ad.add (i * 2)) = some xs[i].key ∧ w.cell? ⟨(ad.add (i * 2)).block, (ad.add (i * 2)).off + 1, none⟩ = some xs[i].val ∧ Rd w xs[i].kA (xs[i].k.map byt) ∧ Rd w xs[i].vA (xs[i].v.map byt) := by
  obtain ⟨ad, hA, hc, hp⟩ := h.at' i hi
  obtain ⟨h1, h2⟩ := pr_rd hp
  refine ⟨ad, hA, ?_, ?_, h1, h2⟩
  · have := hc 0 xs[i].key rfl
    rwa [add_zero'] at this
  · exact hc 1 xs[i].val rfl
def zs (l : List UInt8) : List Int := l.map fun b => (b.toNat : Int)
theorem zs_bytes (l : List UInt8) : Lib.bytesOf (zs l) = l := by
  unfold Lib.bytesOf zs
  rw [List.map_map]
  conv => rhs; rw [← List.map_id l]
  refine List.map_congr_left fun b _ => ?_
  simp
theorem rd_bytesOf {P : Program} {w : World} {A : Option Addr} {l : List UInt8} (h : Rd w A (l.map byt)) (c : Nat) : (Extern.Bytes.bytesOf (.slice A l.length c)).run P w = .ok (str l) w := by
  cases A with
  | none =>
    have : l = [] := by
      cases l with
      | nil => rfl
      | cons x l => obtain ⟨ad, hA, _⟩ := h 0 (byt x) rfl; cases hA
    subst this
    rfl
  | some ad =>
    have := Lib.run_loadBytesX (P := P) w (zs l) ad .empty (fun j x hj => by
      unfold zs at hj
      rw [List.getElem?_map] at hj
      obtain ⟨b, hb, rfl⟩ := Option.map_eq_some_iff.1 hj
      obtain ⟨ad', he, hc⟩ := h j (byt b) (by rw [List.getElem?_map, hb]; rfl)
      cases he
      exact hc)
    rw [show (zs l).length = l.length by simp [zs], zs_bytes] at this
    show (Extern.Bytes.loadBytes ad l.length .empty).run P w = _
    rw [this]
    simp [str]
theorem run_compare {P : Program} {w : World} {A B : Option Addr} {l m : List UInt8} (h : Rd w A (l.map byt)) (g : Rd w B (m.map byt)) (c d : Nat) :
    (Extern.BytealgCompare.compare #[.slice A l.length c, .slice B m.length d]).run P w = .ok (.int .i64 (Lib.compareBytes l m)) w := by
  change Sem.run P (do pure (goInt (Extern.BytealgCompare.cmp (← Extern.Bytes.bytesOf (.slice A l.length c)) (← Extern.Bytes.bytesOf (.slice B m.length d))))) w = _
  simp only [Sem.run_bind, rd_bytesOf h, rd_bytesOf g, Sem.run_pure, Result.andThen]
  rw [Lib.cmp_eq]
  rfl
theorem cell_up {w w2 : World} {o : Obj} (hb : Below (w.alloc o).heap.size (w.alloc o) w2) {p : Addr} {v : Value} (h : w.cell? p = some v) : w2.cell? p = some v := ((below_step (below_alloc w o) hb).cell (cell_lt h)).trans h
theorem cell_on {w w2 : World} (hb : Below w.heap.size w w2) {p : Addr} {v : Value} (h : w.cell? p = some v) : w2.cell? p = some v := (hb.cell (cell_lt h)).trans h
theorem var_on {w w2 : World} {cs : Array Value} {t : TypeId} (hb : Below (w.alloc (.cells cs t)).heap.size (w.alloc (.cells cs t)) w2) (i : Nat) (v : Value) (h : cs[i]? = some v) : w2.cell? ⟨w.heap.size, i, none⟩ = some v := cell_on hb (box_cell w cs t i v h)
theorem froz_on {w w2 : World} (hb : Below w.heap.size w w2) {b i : Nat} (hz : b < w.heap.size) (h : w.frozen? ⟨b, i, none⟩ = false) : w2.frozen? ⟨b, i, none⟩ = false := (hb.frozen (p := ⟨b, i, none⟩) hz).trans h
end Go.Cov


/-! a slice with a bound. Over any program. -/
namespace Go.Cov
open Go.RowKit
theorem run_slice_max {P : Program} {t e : TypeId} {z : Value} {size bytes : Nat} (ht : P.underlying t = some (.slice e)) (hinfo : (P.info? e).map (fun i => (i.zero, i.size, i.bytes)) = some (some z, size, bytes))
    (A : Option Addr) (n c m : Nat) (kd kd' : IntKind) (i j : Int) (hi : i = m) (hj : j = m) (hc : m ≤ c) (w : World) :
    (Instr.sliceAt t (.slice A n c) none (some (.int kd i)) (some (.int kd' j))).run P w = .ok (.slice A m m) w := by
  subst hi hj
  obtain ⟨inf, hinf, _, hz1, _⟩ := info_parts hinfo
  simp [Instr.sliceAt, run_underlying ht, Instr.slice, Instr.sliceBounds, Instr.sliceBound, asIntOf, sizeOf, typeInfo, hinf, hc, Addr.add]
end Go.Cov


/-! comparing bytes is a strict order. -/
namespace Go.Cov
open Go.Lib
theorem cmp_self : ∀ a, compareBytes a a = 0
  | [] => rfl
  | x :: a => by rw [compareBytes, if_neg (UInt8.lt_irrefl x), if_neg (UInt8.lt_irrefl x)]; exact cmp_self a
theorem cmp_swap : ∀ a b, compareBytes b a = -compareBytes a b
  | [], [] => rfl
  | [], _ :: _ => rfl
  | _ :: _, [] => rfl
  | x :: a, y :: b => by
    rw [compareBytes, compareBytes]
    by_cases h1 : x < y
    · rw [if_neg (by have := UInt8.lt_asymm h1; exact this), if_pos h1, if_pos h1]; rfl
    · by_cases h2 : y < x
      · rw [if_pos h2, if_neg h1, if_pos h2]
      · rw [if_neg h2, if_neg h1, if_neg h1, if_neg h2]; exact cmp_swap a b
theorem cmp_zero : ∀ a b, compareBytes a b = 0 → a = b
  | [], [], _ => rfl
  | [], _ :: _, h => by cases h
  | _ :: _, [], h => by cases h
  | x :: a, y :: b, h => by
    rw [compareBytes] at h
    by_cases h1 : x < y
    · rw [if_pos h1] at h; cases h
    · by_cases h2 : y < x
      · rw [if_neg h1, if_pos h2] at h; cases h
      · rw [if_neg h1, if_neg h2] at h
        have : x = y := UInt8.le_antisymm (UInt8.not_lt.1 h2) (UInt8.not_lt.1 h1)
        rw [this, cmp_zero a b h]
theorem cmp_trans : ∀ a b c, compareBytes a b < 0 → compareBytes b c < 0 → compareBytes a c < 0
  | [], [], _, h, _ => by simp [compareBytes] at h
  | [], _ :: _, [], _, h => by simp [compareBytes] at h
  | [], _ :: _, _ :: _, _, _ => by simp [compareBytes]
  | _ :: _, [], _, h, _ => by simp [compareBytes] at h
  | _ :: _, _ :: _, [], _, h => by simp [compareBytes] at h
  | x :: a, y :: b, z :: c, h, g => by
    rw [compareBytes] at h g ⊢
    by_cases h1 : x < y
    · by_cases g1 : y < z
      · rw [if_pos (UInt8.lt_trans h1 g1)]; decide
      · by_cases g2 : z < y
        · rw [if_neg g1, if_pos g2] at g; exact absurd g (by decide)
        · have : y = z := UInt8.le_antisymm (UInt8.not_lt.1 g2) (UInt8.not_lt.1 g1)
          subst this
          rw [if_pos h1]; decide
    · by_cases h2 : y < x
      · rw [if_neg h1, if_pos h2] at h; exact absurd h (by decide)
      · have : x = y := UInt8.le_antisymm (UInt8.not_lt.1 h2) (UInt8.not_lt.1 h1)
        subst this
        rw [if_neg h1, if_neg h1] at h
        by_cases g1 : x < z
        · rw [if_pos g1]; decide
        · by_cases g2 : z < x
          · rw [if_neg g1, if_pos g2] at g; exact absurd g (by decide)
          · rw [if_neg g1, if_neg g2] at g ⊢
            exact cmp_trans a b c h g
theorem cmp_irrefl (a : List UInt8) : ¬ compareBytes a a < 0 := by rw [cmp_self]; decide
end Go.Cov


/-! plain laws of 'wire': order of bytes; what stands behind changes nothing -/
namespace Go.Cov
open Go.RowKit
theorem two_pow8 (i : Nat) : (2 : Nat) ^ (8 * i) = 256 ^ i := by rw [Nat.pow_mul]
theorem bt_nat (k i : Nat) : (bt (k : Int) i).toNat = k / 256 ^ i % 256 := by
  have h := bt_int (k : Int) i
  have e : ((2 : Int) ^ (8 * i)) = ((256 ^ i : Nat) : Int) := by rw [← two_pow8]; simp
  rw [e] at h
  omega
theorem be_less (k m : Nat) : ∀ s, Op.bytesLess (be s k) (be s m) = decide (k % 256 ^ s < m % 256 ^ s)
  | 0 => by simp [be, Op.bytesLess, Nat.mod_one]
  | s + 1 => by
    rw [be, be, Op.bytesLess, be_less k m s]
    have hk := Nat.mod_mul (x := k) (a := 256 ^ s) (b := 256)
    have hm := Nat.mod_mul (x := m) (a := 256 ^ s) (b := 256)
    rw [Nat.pow_succ, hk, hm]
    have h1 : k % 256 ^ s < 256 ^ s := Nat.mod_lt _ (Nat.pow_pos (by decide))
    have h2 : m % 256 ^ s < 256 ^ s := Nat.mod_lt _ (Nat.pow_pos (by decide))
    have e1 := bt_nat k s
    have e2 := bt_nat m s
    have l1 : (bt (k : Int) s < bt (m : Int) s) ↔ k / 256 ^ s % 256 < m / 256 ^ s % 256 := by rw [UInt8.lt_iff_toNat_lt, e1, e2]
    have l2 : (bt (k : Int) s == bt (m : Int) s) = decide (k / 256 ^ s % 256 = m / 256 ^ s % 256) := by
      rw [Bool.eq_iff_iff, beq_iff_eq, decide_eq_true_iff, ← UInt8.toNat_inj, e1, e2]
    rw [l2]
    generalize k / 256 ^ s % 256 = p at l1 l2 ⊢
    generalize m / 256 ^ s % 256 = q at l1 l2 ⊢
    generalize k % 256 ^ s = x at h1 ⊢
    generalize m % 256 ^ s = y at h2 ⊢
    generalize hM : 256 ^ s = M at h1 h2 ⊢
    rcases Nat.lt_trichotomy p q with h | h | h
    · have h3 : M * p + M ≤ M * q := by rw [← Nat.mul_succ]; exact Nat.mul_le_mul_left _ h
      have h4 : x + M * p < y + M * q := by omega
      simp [l1, h, h4]
    · subst h
      simp [l1]
    · have h3 : M * q + M ≤ M * p := by rw [← Nat.mul_succ]; exact Nat.mul_le_mul_left _ h
      have h4 : ¬ x + M * p < y + M * q := by omega
      have h5 : ¬ p < q := by omega
      have h6 : ¬ p = q := by omega
      simp [l1, h4, h5, h6]
theorem be8_less (a b : Int) (ha : 0 ≤ a) (hb : 0 ≤ b) (ha2 : a < 9223372036854775808) (hb2 : b < 9223372036854775808) : Op.bytesLess (be 8 a) (be 8 b) = decide (a < b) := by
  obtain ⟨k, rfl⟩ : ∃ k : Nat, a = k := ⟨a.toNat, by omega⟩
  obtain ⟨m, rfl⟩ : ∃ m : Nat, b = m := ⟨b.toNat, by omega⟩
  rw [be_less]
  have e : (256 : Nat) ^ 8 = 18446744073709551616 := by decide
  rw [e, Nat.mod_eq_of_lt (by omega), Nat.mod_eq_of_lt (by omega)]
  simp
theorem take_drop_app (x z : List UInt8) (k s : Nat) (h : k + s ≤ x.length) : ((x ++ z).drop k).take s = (x.drop k).take s := by
  rw [List.drop_append_of_le_length (by omega), List.take_append_of_le_length (by simp; omega)]
theorem getR_app {x z : List UInt8} {a : Int} {s : Nat} (h : (getR x a s).2.2 = 0) : getR (x ++ z) a s = getR x a s := by
  rcases getR_cases x a s with ⟨_, h1⟩ | ⟨_, h1⟩ | ⟨k, rfl, hk, h1⟩
  · rw [h1] at h; cases h
  · rw [h1] at h; cases h
  · rw [h1, getR, if_neg (by rw [List.length_append]; omega), if_neg (by rw [List.length_append]; omega)]
    rw [show ((k : Int)).toNat = k by omega, take_drop_app x z k s hk]
theorem sizeR_app {x z : List UInt8} {a : Int} {m : Nat} (h : (sizeR x a m).2.2 = 0) : sizeR (x ++ z) a m = sizeR x a m := by
  unfold sizeR at *
  have h0 : (getR x a 4).2.2 = 0 := by
    unfold sizeOf' at h
    split at h
    · cases h
    · exact h
  rw [getR_app h0]
theorem bytesR_app {x z : List UInt8} {a : Int} (h : (bytesR x a).2.2 = 0) : bytesR (x ++ z) a = bytesR x a := by
  rcases bytesR_cases x a with ⟨e, he, h1⟩ | ⟨k, n, rfl, hn, hn2, hk, hz, h1⟩
  · rw [h1] at h; rcases he with rfl | rfl | rfl <;> cases h
  · rw [h1, bytesR, sizeR_app (by rw [hz]), hz, if_pos rfl, if_neg (by rw [List.length_append]; dsimp only; omega)]
    rw [show ((k : Int) + 4).toNat = k + 4 by omega, show ((n : Int)).toNat = n by omega, take_drop_app x z (k + 4) n hk]
theorem preRow_ok_of {acc : List (List UInt8)} {r : List (List UInt8) × Int × Int} (h : (preRow acc r).2.2 = 0) : r.2.2 = 0 := by
  unfold preRow at h
  split at h
  · assumption
  · exact h
theorem rowGo_app {x z : List UInt8} : ∀ (n : Nat) (p : Int), (rowGo x n p).2.2 = 0 → rowGo (x ++ z) n p = rowGo x n p
  | 0, _, _ => rfl
  | n + 1, p, h => by
    rw [rowGo] at h ⊢
    rw [rowGo]
    by_cases h0 : (bytesR x p).2.2 = 0
    · rw [if_pos h0] at h ⊢
      rw [bytesR_app h0, if_pos h0, rowGo_app n _ (preRow_ok_of h)]
    · rw [if_neg h0] at h
      exact absurd h h0
theorem rowR_app {x z : List UInt8} {a : Int} (h : (rowR x a).2.2 = 0) : rowR (x ++ z) a = rowR x a := by
  unfold rowR at *
  by_cases h0 : (sizeR x a 1024).2.2 = 0
  · rw [if_pos h0] at h ⊢
    rw [sizeR_app h0, if_pos h0, rowGo_app _ _ h]
  · rw [if_neg h0] at h
    exact absurd h h0
end Go.Cov


/-! plain laws of 'wire': what was written is read; what was read is written; what is cut ends too early -/
namespace Go.Cov
open Go.RowKit
theorem foldl_nat (l : List UInt8) (a : Nat) : l.foldl (fun a c => a * 256 + c.toNat) a = a * 256 ^ l.length + nat l := by
  unfold nat
  suffices h : ∀ (l : List UInt8) (a b : Nat), l.foldl (fun a c => a * 256 + c.toNat) (a + b) = a * 256 ^ l.length + l.foldl (fun a c => a * 256 + c.toNat) b from by simpa using h l a 0
  intro l
  induction l with
  | nil => intro a b; simp
  | cons c l ih =>
    intro a b
    simp only [List.foldl_cons, List.length_cons]
    rw [show (a + b) * 256 + c.toNat = a * 256 + (b * 256 + c.toNat) by omega, ih (a * 256), Nat.pow_succ]
    have : a * 256 * 256 ^ l.length = a * (256 ^ l.length * 256) := by rw [Nat.mul_assoc, Nat.mul_comm 256]
    omega
theorem nat_cons (x : UInt8) (l : List UInt8) : nat (x :: l) = x.toNat * 256 ^ l.length + nat l := by
  have := foldl_nat l x.toNat
  unfold nat at *
  simpa using this
theorem nat_be (k : Nat) : ∀ s, nat (be s (k : Int)) = k % 256 ^ s
  | 0 => by simp [be, nat, Nat.mod_one]
  | s + 1 => by
    rw [be, nat_cons, be_length, nat_be k s, bt_nat, Nat.pow_succ, Nat.mod_mul, Nat.mul_comm (256 ^ s)]
    omega
theorem bt_mod (k i s : Nat) (h : i < s) : bt ((k % 256 ^ s : Nat) : Int) i = bt (k : Int) i := by
  rw [← UInt8.toNat_inj, bt_nat, bt_nat]
  obtain ⟨d, rfl⟩ : ∃ d, s = i + (d + 1) := ⟨s - i - 1, by omega⟩
  rw [Nat.pow_add, Nat.mod_mul_right_div_self, Nat.mod_mod_of_dvd]
  exact ⟨256 ^ d, by rw [Nat.pow_succ, Nat.mul_comm]⟩
theorem be_congr {a b : Int} : ∀ s, (∀ i, i < s → bt a i = bt b i) → be s a = be s b
  | 0, _ => rfl
  | s + 1, h => by rw [be, be, h s (by omega), be_congr s (fun i hi => h i (by omega))]
theorem be_nat : ∀ (l : List UInt8), be l.length (nat l : Int) = l
  | [] => rfl
  | x :: l => by
    have hlt := nat_lt l
    have hp : 0 < 256 ^ l.length := Nat.pow_pos (by decide)
    rw [List.length_cons, be, nat_cons]
    have h1 : bt ((x.toNat * 256 ^ l.length + nat l : Nat) : Int) l.length = x := by
      rw [← UInt8.toNat_inj, bt_nat, Nat.mul_comm, Nat.mul_add_div hp, Nat.div_eq_of_lt hlt, Nat.add_zero]
      exact Nat.mod_eq_of_lt x.toNat_lt
    have h2 : be l.length ((x.toNat * 256 ^ l.length + nat l : Nat) : Int) = be l.length (nat l : Int) := by
      apply be_congr
      intro i hi
      rw [← bt_mod _ i l.length hi, Nat.mul_comm, Nat.mul_add_mod, Nat.mod_eq_of_lt hlt]
    rw [h1, h2, be_nat l]
theorem bt_neg (n : Int) (i : Nat) (hi : i < 8) : bt (n + 18446744073709551616) i = bt n i := by
  rw [← UInt8.toNat_inj]
  have h1 := bt_int n i
  have h2 := bt_int (n + 18446744073709551616) i
  obtain ⟨d, hd⟩ : ∃ d : Nat, (18446744073709551616 : Int) = (2 : Int) ^ (8 * i) * (256 * (d : Int)) := by
    match i, hi with
    | 0, _ => exact ⟨72057594037927936, by decide⟩
    | 1, _ => exact ⟨281474976710656, by decide⟩
    | 2, _ => exact ⟨1099511627776, by decide⟩
    | 3, _ => exact ⟨4294967296, by decide⟩
    | 4, _ => exact ⟨16777216, by decide⟩
    | 5, _ => exact ⟨65536, by decide⟩
    | 6, _ => exact ⟨256, by decide⟩
    | 7, _ => exact ⟨1, by decide⟩
  have hp : (2 : Int) ^ (8 * i) ≠ 0 := Int.pow_ne_zero (by decide)
  have key : (n + 18446744073709551616) / 2 ^ (8 * i) % 256 = n / 2 ^ (8 * i) % 256 := by
    rw [hd, Int.add_mul_ediv_left _ _ hp]
    generalize n / 2 ^ (8 * i) = q
    omega
  rw [key] at h2
  omega
theorem be8_gv (l : List UInt8) (h : l.length = 8) : be 8 (gv l) = l := by
  have hb := be_nat l
  rw [h] at hb
  have hlt := nat_lt l
  rw [h] at hlt
  rw [gv_nat]
  have e : (256 : Nat) ^ 8 = 18446744073709551616 := by decide
  rw [e] at hlt
  generalize nat l = m at hb hlt
  by_cases hm : m < 9223372036854775808
  · have : wrap64 (m : Int) = m := by simp only [wrap64]; omega
    rw [this, hb]
  · have : wrap64 (m : Int) + 18446744073709551616 = m := by simp only [wrap64]; omega
    rw [← hb]
    generalize wrap64 (m : Int) = v at this
    rw [← this]
    exact (be_congr 8 (fun i hi => bt_neg v i hi)).symm
theorem gv_be8 (n : Int) (h1 : -9223372036854775808 ≤ n) (h2 : n < 9223372036854775808) : gv (be 8 n) = n := by
  rw [gv_nat]
  by_cases h : 0 ≤ n
  · obtain ⟨k, rfl⟩ : ∃ k : Nat, n = k := ⟨n.toNat, by omega⟩
    rw [nat_be, Nat.mod_eq_of_lt (by have e : (256 : Nat) ^ 8 = 18446744073709551616 := by decide
                                     omega)]
    simp only [wrap64]
    omega
  · obtain ⟨k, hk⟩ : ∃ k : Nat, n + 18446744073709551616 = k := ⟨(n + 18446744073709551616).toNat, by omega⟩
    have e : be 8 n = be 8 (k : Int) := by rw [← hk]; exact (be_congr 8 (fun i hi => bt_neg n i hi)).symm
    rw [e, nat_be, Nat.mod_eq_of_lt (by have e : (256 : Nat) ^ 8 = 18446744073709551616 := by decide
                                        omega)]
    simp only [wrap64]
    omega
/-! ### what stands at a place -/
theorem drop_pre (pre rest : List UInt8) : (pre ++ rest).drop pre.length = rest := by simp
theorem getR_at (pre m rest : List UInt8) (s : Nat) (hm : m.length = s) : getR (pre ++ (m ++ rest)) (pre.length : Int) s = (gv m, (pre.length : Int) + s, 0) := by
  rw [getR, if_neg (by simp only [List.length_append]; omega), if_neg (by simp only [List.length_append]; omega)]
  rw [show ((pre.length : Int)).toNat = pre.length by omega, drop_pre, List.take_append_of_le_length (by omega), List.take_of_length_le (by omega)]
theorem num_back (pre rest : List UInt8) (n : Int) (h1 : -9223372036854775808 ≤ n) (h2 : n < 9223372036854775808) : getR (pre ++ (be 8 n ++ rest)) (pre.length : Int) 8 = (n, (pre.length : Int) + 8, 0) := by
  rw [getR_at pre (be 8 n) rest 8 (be_length 8 n), gv_be8 n h1 h2]; rfl
theorem bool_back (pre rest : List UInt8) (b : Bool) : boolR (pre ++ ([tb b] ++ rest)) (pre.length : Int) = (b, (pre.length : Int) + 1, 0) := by
  rw [boolR, getR_at pre [tb b] rest 1 rfl, gv_one]
  cases b <;> rfl
theorem size_back (pre rest : List UInt8) (n : Nat) (most : Nat) (h : n ≤ most) (h32 : n < 4294967296) : sizeR (pre ++ (be 4 n ++ rest)) (pre.length : Int) most = ((n : Int), (pre.length : Int) + 4, 0) := by
  have hg : gv (be 4 (n : Int)) = n := by
    rw [(gv4 _ (by rw [be_length]; omega)).1, nat_be, Nat.mod_eq_of_lt (by have e : (256 : Nat) ^ 4 = 4294967296 := by decide
                                                                           omega)]
  rw [sizeR, getR_at pre (be 4 n) rest 4 (be_length 4 n), hg, sizeOf', if_neg (by dsimp only; omega)]
  rfl
theorem bytes_back (pre rest t : List UInt8) (h : t.length ≤ 65536) : bytesR (pre ++ (tx t ++ rest)) (pre.length : Int) = (t, (pre.length : Int) + (tx t).length, 0) := by
  have hs := size_back pre (t ++ rest) t.length 65536 h (by omega)
  rw [tx, List.append_assoc]
  rw [bytesR, hs, if_pos rfl, if_neg (by simp only [List.length_append, be_length]; omega)]
  have e1 : ((pre.length : Int) + 4).toNat = (pre ++ be 4 t.length).length := by rw [List.length_append, be_length]; omega
  have e2 : pre ++ (be 4 t.length ++ (t ++ rest)) = (pre ++ be 4 t.length) ++ (t ++ rest) := by simp
  dsimp only
  rw [e1, e2, drop_pre, show ((t.length : Int)).toNat = t.length by omega, List.take_append_of_le_length (Nat.le_refl _), List.take_of_length_le (Nat.le_refl _), List.length_append, be_length]
  congr 2
  omega
theorem rowGo_back (rest : List UInt8) : ∀ (ls : List (List UInt8)) (pre : List UInt8), (∀ s ∈ ls, s.length ≤ 65536) → rowGo (pre ++ (ls.flatMap tx ++ rest)) ls.length (pre.length : Int) = (ls, (pre.length : Int) + (ls.flatMap tx).length, 0)
  | [], pre, _ => by simp [rowGo]
  | t :: ls, pre, h => by
    have hb := bytes_back pre (ls.flatMap tx ++ rest) t (h t (List.mem_cons_self ..))
    have hr := rowGo_back rest ls (pre ++ tx t) (fun s hs => h s (List.mem_cons_of_mem _ hs))
    rw [List.flatMap_cons, List.length_cons, rowGo, List.append_assoc, hb, if_pos rfl]
    dsimp only
    rw [show pre ++ (tx t ++ (ls.flatMap tx ++ rest)) = pre ++ tx t ++ (ls.flatMap tx ++ rest) by simp, show (pre.length : Int) + ((tx t).length : Int) = ((pre ++ tx t).length : Int) by rw [List.length_append]; omega, hr, preRow_ok]
    rw [List.length_append, List.length_append]
    congr 2
    omega
theorem fits_mem {ls : List (List UInt8)} (h : fits ls = true) : ∀ s ∈ ls, s.length ≤ 65536 := by
  intro s hs
  rw [fits, List.all_eq_true] at h
  simpa using h s hs
theorem row_back (pre rest : List UInt8) (ls : List (List UInt8)) (h : ls.length ≤ 1024) (hf : fits ls = true) : rowR (pre ++ (rw' ls ++ rest)) (pre.length : Int) = (ls, (pre.length : Int) + (rw' ls).length, 0) := by
  have hs := size_back pre (ls.flatMap tx ++ rest) ls.length 1024 h (by omega)
  have hr := rowGo_back rest ls (pre ++ be 4 ls.length) (fits_mem hf)
  rw [rw', List.append_assoc, rowR, hs, if_pos rfl]
  dsimp only
  rw [show ((ls.length : Int)).toNat = ls.length by omega, show pre ++ (be 4 ls.length ++ (ls.flatMap tx ++ rest)) = (pre ++ be 4 ls.length) ++ (ls.flatMap tx ++ rest) by simp, show (pre.length : Int) + 4 = ((pre ++ be 4 ls.length).length : Int) by rw [List.length_append, be_length]; omega, hr]
  simp only [List.length_append, be_length]
  congr 2
  omega
/-! ### what is read stands there -/
theorem num_kept {l : List UInt8} {k : Nat} {n p : Int} (h : getR l k 8 = (n, p, 0)) : p = (k : Int) + 8 ∧ ∃ rest, l.drop k = be 8 n ++ rest ∧ k + 8 ≤ l.length := by
  rcases getR_cases l k 8 with ⟨_, h1⟩ | ⟨_, h1⟩ | ⟨j, hj, hl, h1⟩
  · rw [h1] at h; cases h
  · rw [h1] at h; cases h
  · obtain rfl : k = j := by omega
    rw [h1] at h
    injection h with h2 h3
    injection h3 with h3 _
    refine ⟨h3.symm, (l.drop k).drop 8, ?_, hl⟩
    rw [← h2, be8_gv _ (by simp; omega), List.take_append_drop]
theorem bool_kept {l : List UInt8} {k : Nat} {b : Bool} {p : Int} (h : boolR l k = (b, p, 0)) : p = (k : Int) + 1 ∧ ∃ rest, l.drop k = [tb b] ++ rest ∧ k + 1 ≤ l.length := by
  unfold boolR at h
  rcases getR_cases l k 1 with ⟨_, h1⟩ | ⟨_, h1⟩ | ⟨j, hj, hl, h1⟩
  · rw [h1] at h; cases h
  · rw [h1] at h; cases h
  · obtain rfl : k = j := by omega
    rw [h1] at h
    obtain ⟨x, r, hd⟩ : ∃ x r, l.drop k = x :: r := by
      cases hd : l.drop k with
      | nil => have := congrArg List.length hd; simp at this; omega
      | cons x r => exact ⟨x, r, rfl⟩
    rw [hd, show (x :: r).take 1 = [x] from rfl, gv_one] at h
    unfold boolOf at h
    rw [if_pos rfl] at h
    dsimp only at h
    split at h
    · cases h
    · injection h with h2 h3
      injection h3 with h3 _
      refine ⟨h3.symm, r, ?_, hl⟩
      rw [hd]
      congr 1
      rename_i hx
      rw [← UInt8.toNat_inj, ← h2]
      by_cases hx1 : x.toNat = 1
      · rw [hx1]; rfl
      · have : x.toNat = 0 := by omega
        rw [this]; rfl
theorem bytes_kept {l : List UInt8} {k : Nat} {t : List UInt8} {p : Int} (h : bytesR l k = (t, p, 0)) : t.length ≤ 65536 ∧ p = (k : Int) + (tx t).length ∧ k + (tx t).length ≤ l.length ∧ l.drop k = tx t ++ l.drop (k + (tx t).length) := by
  rcases bytesR_cases l k with ⟨e, he, h1⟩ | ⟨j, n, hj, hn, hn2, hl, hz, h1⟩
  · rw [h1] at h; injection h with _ h; injection h with _ h; rcases he with rfl | rfl | rfl <;> cases h
  · obtain rfl : k = j := by omega
    rw [h1] at h
    injection h with h2 h3
    injection h3 with h3 _
    have hlt : t.length = n := by rw [← h2]; simp; omega
    have hb4 : be 4 (n : Int) = (l.drop k).take 4 := by
      have := be_nat ((l.drop k).take 4)
      rw [show ((l.drop k).take 4).length = 4 by simp; omega, ← hn] at this
      exact this
    refine ⟨by omega, by rw [tx_length, hlt, ← h3]; omega, by rw [tx_length, hlt]; omega, ?_⟩
    rw [tx_length, hlt, tx, hlt, hb4, ← h2]
    rw [show l.drop (k + (4 + n)) = ((l.drop k).drop 4).drop n by rw [List.drop_drop, List.drop_drop], show l.drop (k + 4) = (l.drop k).drop 4 by rw [List.drop_drop], List.append_assoc, List.take_append_drop, List.take_append_drop]
theorem preRow_inv {acc : List (List UInt8)} {r : List (List UInt8) × Int × Int} {ls : List (List UInt8)} {p : Int} (h : preRow acc r = (ls, p, 0)) : ∃ r1, r = (r1, p, 0) ∧ ls = acc ++ r1 := by
  obtain ⟨r1, r2, r3⟩ := r
  unfold preRow at h
  dsimp only at h
  split at h
  · rename_i h0
    injection h with h1 h2
    injection h2 with h2 h3
    exact ⟨r1, by rw [h2, h0], h1.symm⟩
  · injection h with h1 h2
    injection h2 with h2 h3
    contradiction
theorem rowGo_kept {l : List UInt8} : ∀ (n k : Nat) (ls : List (List UInt8)) (p : Int), k ≤ l.length → rowGo l n k = (ls, p, 0) → ls.length = n ∧ (∀ s ∈ ls, s.length ≤ 65536) ∧ p = (k : Int) + (ls.flatMap tx).length ∧ k + (ls.flatMap tx).length ≤ l.length ∧ l.drop k = ls.flatMap tx ++ l.drop (k + (ls.flatMap tx).length)
  | 0, k, ls, p, hk, h => by
    rw [rowGo] at h
    injection h with h1 h2
    injection h2 with h2 _
    subst h1 h2
    exact ⟨rfl, by simp, by simp, by simpa using hk, by simp⟩
  | n + 1, k, ls, p, hk, h => by
    rw [rowGo] at h
    by_cases h0 : (bytesR l k).2.2 = 0
    · rw [if_pos h0] at h
      obtain ⟨r1, hr, rfl⟩ := preRow_inv h
      obtain ⟨t, q, e, hb⟩ : ∃ t q e, bytesR l k = (t, q, e) := ⟨_, _, _, rfl⟩
      rw [hb] at h0 hr
      dsimp only at h0 hr
      subst h0
      obtain ⟨b1, b2, b3, b4⟩ := bytes_kept hb
      rw [b2, show (k : Int) + ((tx t).length : Int) = ((k + (tx t).length : Nat) : Int) by omega] at hr
      obtain ⟨c1, c2, c3, c4, c5⟩ := rowGo_kept n (k + (tx t).length) r1 p b3 hr
      rw [hb]
      refine ⟨by simp [c1], ?_, ?_, ?_, ?_⟩
      · intro s hs
        rcases List.mem_append.1 hs with hs | hs
        · rw [List.mem_singleton] at hs; subst hs; exact b1
        · exact c2 s hs
      · rw [c3]; simp only [List.flatMap_append, List.flatMap_cons, List.flatMap_nil, List.append_nil, List.length_append]; omega
      · simp only [List.flatMap_append, List.flatMap_cons, List.flatMap_nil, List.append_nil, List.length_append]; omega
      · simp only [List.flatMap_append, List.flatMap_cons, List.flatMap_nil, List.append_nil, List.length_append]
        rw [b4, c5, List.append_assoc]
        congr 3
        omega
    · rw [if_neg h0] at h
      injection h with h1 h2
      injection h2 with h2 h3
      exact absurd h3 h0
theorem row_kept {l : List UInt8} {ls : List (List UInt8)} {k : Nat} {p : Int} (h : rowR l k = (ls, p, 0)) : ls.length ≤ 1024 ∧ fits ls = true ∧ p = (k : Int) + (rw' ls).length ∧ k + (rw' ls).length ≤ l.length ∧ l.drop k = rw' ls ++ l.drop (k + (rw' ls).length) := by
  unfold rowR at h
  rcases sizeR_cases l k 1024 with ⟨e, he, hz⟩ | ⟨j, hj, hl, hm, hz⟩
  · rw [hz] at h
    rw [if_neg (by rcases he with rfl | rfl | rfl <;> decide)] at h
    injection h with h1 h2
    injection h2 with h2 h3
    rcases he with rfl | rfl | rfl <;> cases h3
  · obtain rfl : k = j := by omega
    rw [hz, if_pos rfl] at h
    dsimp only at h
    rw [show (k : Int) + 4 = ((k + 4 : Nat) : Int) by omega] at h
    have hb4 : be 4 ((nat ((l.drop k).take 4) : Nat) : Int) = (l.drop k).take 4 := by
      have := be_nat ((l.drop k).take 4)
      rw [show ((l.drop k).take 4).length = 4 by simp; omega] at this
      exact this
    generalize nat ((l.drop k).take 4) = n at hm h hb4
    rw [show ((n : Int)).toNat = n by omega] at h
    obtain ⟨c1, c2, c3, c4, c5⟩ := rowGo_kept n (k + 4) ls p hl h
    have hlen : (rw' ls).length = 4 + (ls.flatMap tx).length := by rw [rw', List.length_append, be_length]
    refine ⟨by omega, by rw [fits, List.all_eq_true]; intro s hs; simpa using c2 s hs, by rw [c3, hlen]; omega, by rw [hlen]; omega, ?_⟩
    rw [hlen, rw', c1, hb4, show k + (4 + (ls.flatMap tx).length) = k + 4 + (ls.flatMap tx).length by omega, List.append_assoc, ← c5, show l.drop (k + 4) = (l.drop k).drop 4 by rw [List.drop_drop], List.take_append_drop]
theorem rowR_err {l : List UInt8} {a : Int} (h : (rowR l a).2.2 ≠ 0) : (rowR l a).1 = [] ∧ (rowR l a).2.1 = 0 := by
  unfold rowR at *
  by_cases h0 : (sizeR l a 1024).2.2 = 0
  · rw [if_pos h0] at h ⊢
    generalize (sizeR l a 1024).1.toNat = n at h ⊢
    generalize (sizeR l a 1024).2.1 = p at h ⊢
    clear h0
    cases n with
    | zero => exact absurd rfl h
    | succ n =>
      rw [rowGo] at h ⊢
      by_cases h1 : (bytesR l p).2.2 = 0
      · rw [if_pos h1] at h ⊢
        unfold preRow at *
        split at h
        · exact absurd rfl h
        · rename_i h2
          rw [if_neg h2]; exact ⟨rfl, rfl⟩
      · rw [if_neg h1]; exact ⟨rfl, rfl⟩
  · rw [if_neg h0]; exact ⟨rfl, rfl⟩
end Go.Cov


/-
  Lemmas of this claim's own: what a law's arguments, read as data, give the walk. Over any program.
-/
namespace Go.Cov
open Go.RowKit Go.ChangeShapes Go.WideShapes Go.Deep

theorem rd_flat {α : Type} {w : World} (g : α → List Value) (sz : Nat) (hsz : ∀ a, (g a).length = sz) :
    ∀ (l : List α) (ad : Addr), (∀ i a, l[i]? = some a → ∀ r u, (g a)[r]? = some u → w.cell? (ad.add (i * sz + r)) = some u) → Rd w (some ad) (l.flatMap g)
  | [], ad, _ => by simpa using Rd.nil w (some ad)
  | x :: l, ad, h => by
    intro j u hj
    refine ⟨ad, rfl, ?_⟩
    rw [List.flatMap_cons] at hj
    by_cases hlt : j < sz
    · rw [List.getElem?_append_left (by rw [hsz]; exact hlt)] at hj
      simpa using h 0 x rfl j u hj
    · rw [List.getElem?_append_right (by rw [hsz]; omega), hsz] at hj
      obtain ⟨ad', he, hc⟩ := rd_flat g sz hsz l (ad.add sz) (fun i a ha r u hu => by
        have := h (i + 1) a (by simpa using ha) r u hu
        rw [add_add', show sz + (i * sz + r) = (i + 1) * sz + r by rw [Nat.add_mul]; omega]
        exact this) (j - sz) u hj
      cases he
      rw [add_add'] at hc
      rwa [show sz + (j - sz) = j by omega] at hc

section
variable {H : Type} {enc : TypeId × Value → H} {P : Program} {W : World}
/-- A slice of whatever elements, opened: its elements are a list of α, each by its cells. -/
theorem open_sl {α : Type} [Inhabited α] {t e sz fuel : Nat} {base : Nat} {spare : Nat → Bool} {held : Bool} (g : α → List Value) (Q : α → Prop) (ht : P.underlying t = some (.slice e)) (hc : P.cellsOf e = sz) (hsz : ∀ a, (g a).length = sz)
    (hinv : ∀ n cs x, DataW.trod enc P W base spare held n e cs = some x → ∃ a, cs = g a ∧ Q a)
    {cs : List Value} {x : DataW H × List MemPlace} (h : DataW.trod enc P W base spare held fuel t cs = some x) :
    ∃ (A : Option Addr) (c : Nat) (l : List α), cs = [.slice A l.length c] ∧ l.length ≤ c ∧ c ≤ maxLen ∧ (A = none → c = 0) ∧ Rd W A (l.flatMap g) ∧ (∀ a ∈ l, Q a) ∧
      (x.1 = .nil ∧ l = [] ∨ ∃ el sp, x.1 = .slice el sp ∧ el.length = l.length ∧ sp.length ≤ c) := by
  rcases open_slice ht h with ⟨rfl, rfl⟩ | ⟨a, len, cap, m, n, D, Pl, rfl, _, hl, hm, hmm, rfl, hi⟩
  · exact ⟨none, 0, [], rfl, Nat.le_refl _, by simp [maxLen], fun _ => rfl, Rd.nil _ _, by simp, .inl ⟨rfl, rfl⟩⟩
  · have hmle : len ≤ m := by subst hmm; split <;> omega
    have hmc : m ≤ cap := by subst hmm; split <;> omega
    obtain ⟨f, hf⟩ := choose_lt (n := len) (p := fun i z => Q z ∧ ∀ r, r < sz → W.cell? ((a.add (i * sz)).add r) = (g z)[r]?) (fun i hi' => by
      obtain ⟨cs', hcs, htr⟩ := hi i (by omega)
      obtain ⟨z, hz, hq⟩ := hinv _ _ _ htr
      rw [hc] at hcs
      obtain ⟨_, _, hcell⟩ := World.cells?_some hcs
      exact ⟨z, hq, fun r hr => by rw [hcell r hr, hz]⟩)
    refine ⟨some a, cap, (List.range len).map f, by simp, by simpa using hl, hm, (fun h => by cases h), ?_, ?_, .inr ⟨_, _, rfl, by simp, by simp; omega⟩⟩
    · refine rd_flat g sz hsz _ a fun i z hz r u hu => ?_
      rw [List.getElem?_map] at hz
      obtain ⟨i', hi', rfl⟩ := Option.map_eq_some_iff.1 hz
      have hlt : i < len := by simpa using (List.getElem?_eq_some_iff.1 hi').1
      have : i' = i := by simpa [hlt] using hi'.symm
      subst this
      have hr : r < sz := by rw [← hsz (f i')]; exact (List.getElem?_eq_some_iff.1 hu).1
      rw [← add_add', (hf i' hlt).2 r hr, hu]
    · intro z hz
      obtain ⟨i, hi', rfl⟩ := List.mem_map.1 hz
      exact (hf i (by simpa using hi')).1
/-- ... as a parameter -/
theorem open_arg {α : Type} [Inhabited α] {t e sz : Nat} {base : Nat} {spare : Nat → Bool} {held : Bool} (g : α → List Value) (Q : α → Prop) (ht : P.underlying t = some (.slice e)) (hc : P.cellsOf e = sz) (hsz : ∀ a, (g a).length = sz)
    (hinv : ∀ n cs x, DataW.trod enc P W base spare held n e cs = some x → ∃ a, cs = g a ∧ Q a)
    {r : Reach} {b0 : Nat} {v : Value} {d : DataW H} {p : List MemPlace} (hval : Value.okWide P W r b0 t v) (h : DataW.Trod enc P W base spare held t v d p) :
    ∃ (A : Option Addr) (c : Nat) (l : List α), v = .slice A l.length c ∧ l.length ≤ c ∧ c ≤ maxLen ∧ (A = none → c = 0) ∧ Rd W A (l.flatMap g) ∧ (∀ a ∈ l, Q a) ∧
      (d = .nil ∧ l = [] ∨ ∃ el sp, d = .slice el sp ∧ el.length = l.length ∧ sp.length ≤ c) := by
  obtain ⟨a0, n0, c0, rfl⟩ := okWide_slice ht hval
  obtain ⟨fuel, hf⟩ := h
  obtain ⟨A, c, l, hv, r⟩ := open_sl g Q ht hc hsz hinv hf
  exact ⟨A, c, l, by simpa [Value.cells] using hv, r⟩
end

theorem reach1 {P : Program} {e n : Nat} (he : P.bytesOf e = 1) (h : n * P.bytesOf e ≤ reachBytes) : n ≤ 140737488351232 := by
  rw [he] at h; simpa [reachBytes] using h
theorem wf64 {n : Int} (h : (Lit.int .i64 n).wf = true) : -9223372036854775808 ≤ n ∧ n < 9223372036854775808 := by
  have hb : -9223372036854775808 ≤ n ∧ n ≤ 9223372036854775807 := by simpa [Lit.wf, IntKind.min, IntKind.max, IntKind.signed, IntKind.bits] using h
  omega
theorem wfu8 {n : Int} (h : (Lit.int .u8 n).wf = true) : 0 ≤ n ∧ n < 256 := by
  have hb : 0 ≤ n ∧ n ≤ 255 := by simpa [Lit.wf, IntKind.min, IntKind.max, IntKind.signed, IntKind.bits] using h
  omega
theorem wfu16 {n : Int} (h : (Lit.int .u16 n).wf = true) : 0 ≤ n ∧ n < 65536 := by
  have hb : 0 ≤ n ∧ n ≤ 65535 := by simpa [Lit.wf, IntKind.min, IntKind.max, IntKind.signed, IntKind.bits] using h
  omega
theorem wfu32 {n : Int} (h : (Lit.int .u32 n).wf = true) : 0 ≤ n ∧ n < 4294967296 := by
  have hb : 0 ≤ n ∧ n ≤ 4294967295 := by simpa [Lit.wf, IntKind.min, IntKind.max, IntKind.signed, IntKind.bits] using h
  omega
theorem reach24 {P : Program} {e n : Nat} (he : P.bytesOf e = 24) (h : n * P.bytesOf e ≤ reachBytes) : n ≤ 140737488351236 := by
  rw [he] at h; simp [reachBytes] at h; omega
theorem flat1 {α : Type} {w : World} {A : Option Addr} (f : α → Value) {l : List α} (h : Rd w A (l.flatMap fun a => [f a])) : Rd w A (l.map f) := by
  have e : ∀ l : List α, l.flatMap (fun a => [f a]) = l.map f := fun l => by
    induction l with
    | nil => rfl
    | cons x l ih => rw [List.flatMap_cons, ih]; rfl
  rwa [e] at h

/-! ### elements of one cell -/
section
variable {H : Type} {enc : TypeId × Value → H} {P : Program} {W : World} {base : Nat} {spare : Nat → Bool} {held : Bool}
def one {α : Type} (f : α → Value) (a : α) : List Value := [f a]
theorem flat_one {α : Type} (f : α → Value) (l : List α) : l.flatMap (one f) = l.map f := by
  induction l with
  | nil => rfl
  | cons x l ih => rw [List.flatMap_cons, ih]; rfl
theorem inv_string {e : TypeId} (he : P.underlying e = some .string) : ∀ n cs x, DataW.trod enc P W base spare held n e cs = some x → ∃ a, cs = one Value.string a ∧ a.size ≤ maxLen := by
  intro n cs x h
  obtain ⟨s, rfl, _, hs⟩ := DataW.trod_string he h
  exact ⟨s, rfl, hs⟩
theorem inv_bool {e : TypeId} (he : P.underlying e = some .bool) : ∀ n cs x, DataW.trod enc P W base spare held n e cs = some x → ∃ a, cs = one Value.bool a ∧ True := by
  intro n cs x h
  obtain ⟨s, rfl, _⟩ := DataW.trod_bool he h
  exact ⟨s, rfl, trivial⟩
theorem u8_of_wf {n : Int} (h : (Lit.int .u8 n).wf = true) : ∃ b : UInt8, n = b.toNat := by
  have hb : 0 ≤ n ∧ n ≤ 255 := by simpa [Lit.wf, IntKind.min, IntKind.max, IntKind.signed, IntKind.bits] using h
  refine ⟨UInt8.ofNat n.toNat, ?_⟩
  have : (UInt8.ofNat n.toNat).toNat = n.toNat % 256 := by simp
  rw [this]
  omega
theorem inv_u8 {e : TypeId} (he : P.underlying e = some (.int .u8)) : ∀ n cs x, DataW.trod enc P W base spare held n e cs = some x → ∃ a, cs = one byt a ∧ True := by
  intro n cs x h
  obtain ⟨m, rfl, _, hw⟩ := DataW.trod_int he h
  obtain ⟨b, rfl⟩ := u8_of_wf hw
  exact ⟨b, rfl, trivial⟩
theorem inv_int {k : IntKind} {e : TypeId} (he : P.underlying e = some (.int k)) : ∀ n cs x, DataW.trod enc P W base spare held n e cs = some x → ∃ a, cs = one (Value.int k) a ∧ (Lit.int k a).wf = true := by
  intro n cs x h
  obtain ⟨m, rfl, _, hw⟩ := DataW.trod_int he h
  exact ⟨m, rfl, hw⟩
/-- A struct's cells, each field's by its own reading. -/
theorem inv_struct {t fuel : Nat} {fs : Array Field} {cs : List Value} {x : DataW H × List MemPlace} (ht : P.underlying t = some (.struct fs)) (h : DataW.trod enc P W base spare held fuel t cs = some x) :
    ∃ m, cs.length = P.cellsOf t ∧ ∀ (i : Nat) (f : Field), fs[i]? = some f → ∃ y, DataW.trod enc P W base spare held m f.type ((cs.drop f.offset).take (P.cellsOf f.type)) = some y := by
  obtain ⟨xs, n, _, _, hlen, hxl, hf⟩ := DataW.trod_struct ht h
  refine ⟨n, hlen, fun i f hi => ?_⟩
  have hlt : i < fs.size := (Array.getElem?_eq_some_iff.1 hi).1
  exact ⟨xs[i]'(by omega), by rw [hf i f hi, List.getElem?_eq_getElem (by omega)]⟩
end
/-! ### slices of slices of bytes -/
section
variable {H : Type} {enc : TypeId × Value → H} {P : Program} {W : World} {base : Nat} {spare : Nat → Bool} {held : Bool}
def fst1 (a : Value × List UInt8) : List Value := [a.1]
instance : Inhabited (Value × List UInt8) := ⟨(.bool false, [])⟩
theorem inv_slice {e be : TypeId} (he : P.underlying e = some (.slice be)) (hb : P.underlying be = some (.int .u8)) (hc : P.cellsOf be = 1) :
    ∀ n cs x, DataW.trod enc P W base spare held n e cs = some x → ∃ a : Value × List UInt8, cs = fst1 a ∧ Sl W a.1 a.2 := by
  intro n cs x h
  obtain ⟨A, c, l, rfl, h1, h2, _, h3, _⟩ := open_sl (sz := 1) (one byt) _ he hc (fun _ => rfl) (inv_u8 hb) h
  rw [flat_one] at h3
  exact ⟨(.slice A l.length c, l), rfl, A, c, rfl, h1, h2, h3⟩
theorem rowrd_of {A : Option Addr} {l : List (Value × List UInt8)} (h : Rd W A (l.flatMap fst1)) (hq : ∀ a ∈ l, Sl W a.1 a.2) : RowRd W A (l.map (·.2)) := by
  refine ⟨l.map (·.1), ?_, by simp, fun i x hx => ?_⟩
  · have e : ∀ l : List (Value × List UInt8), l.flatMap fst1 = l.map (·.1) := fun l => by
      induction l with
      | nil => rfl
      | cons x l ih => rw [List.flatMap_cons, ih]; rfl
    rwa [e] at h
  · rw [List.getElem?_map] at hx
    obtain ⟨a, ha, rfl⟩ := Option.map_eq_some_iff.1 hx
    exact ⟨a.1, by rw [List.getElem?_map, ha]; rfl, hq a (List.mem_of_getElem? ha)⟩
theorem open_rows {t e be : TypeId} (ht : P.underlying t = some (.slice e)) (hce : P.cellsOf e = 1) (he : P.underlying e = some (.slice be)) (hb : P.underlying be = some (.int .u8)) (hc : P.cellsOf be = 1)
    {r : Reach} {b0 : Nat} {v : Value} {d : DataW H} {p : List MemPlace} (hval : Value.okWide P W r b0 t v) (h : DataW.Trod enc P W base spare held t v d p) :
    ∃ (A : Option Addr) (c : Nat) (ls : List (List UInt8)), v = .slice A ls.length c ∧ ls.length ≤ c ∧ c ≤ maxLen ∧ RowRd W A ls ∧ (d = .nil ∧ ls = [] ∨ ∃ el sp, d = .slice el sp ∧ el.length = ls.length ∧ sp.length ≤ c) := by
  obtain ⟨A, c, l, hv, h1, h2, _, h3, h4, h5⟩ := open_arg (sz := 1) fst1 _ ht hce (fun _ => rfl) (inv_slice he hb hc) hval h
  refine ⟨A, c, l.map (·.2), by rw [List.length_map]; exact hv, by rw [List.length_map]; exact h1, h2, rowrd_of h3 h4, ?_⟩
  rcases h5 with ⟨h5, rfl⟩ | ⟨el, sp, h5, h6, h7⟩
  · exact .inl ⟨h5, rfl⟩
  · exact .inr ⟨el, sp, h5, by rw [List.length_map]; exact h6, h7⟩
end
end Go.Cov


/-
  Lemmas of this claim's own: a slice of pairs, read as data. Over any program.
-/
namespace Go.Cov
open Go.RowKit Go.ChangeShapes Go.WideShapes Go.Deep
section
variable {H : Type} {enc : TypeId × Value → H} {P : Program} {W : World} {base : Nat} {spare : Nat → Bool} {held : Bool}
theorem inv_pair {t be : TypeId} {f0 f1 : Field} (ht : P.underlying t = some (.struct #[f0, f1])) (hct : P.cellsOf t = 2) (ho : f0.offset = 0 ∧ f1.offset = 1) (h0 : P.underlying f0.type = some (.slice be)) (h1 : P.underlying f1.type = some (.slice be)) (hc0 : P.cellsOf f0.type = 1 ∧ P.cellsOf f1.type = 1) (hb : P.underlying be = some (.int .u8)) (hcb : P.cellsOf be = 1) :
    ∀ n cs x, DataW.trod enc P W base spare held n t cs = some x → ∃ a : Pr, cs = prEl.cells a ∧ ∀ p ∈ prEl.cons a, Sl W p.1 p.2 := by
  intro n cs x h
  obtain ⟨y0, y1, m, _, hl, g0, g1⟩ := trod_struct2 ht h
  rw [hct] at hl
  match cs, hl with
  | [u, v], _ =>
    rw [ho.1, hc0.1] at g0
    rw [ho.2, hc0.2] at g1
    obtain ⟨a, e0, s0⟩ := inv_slice h0 hb hcb _ _ _ g0
    obtain ⟨b, e1, s1⟩ := inv_slice h1 hb hcb _ _ _ g1
    have e0 : u = a.1 := by simpa [fst1] using e0
    have e1 : v = b.1 := by simpa [fst1] using e1
    obtain ⟨A, c, ha, r0⟩ := s0
    obtain ⟨B, d, hb', r1⟩ := s1
    refine ⟨⟨A, c, a.2, B, d, b.2⟩, ?_, ?_⟩
    · rw [e0, e1, ha, hb']; rfl
    · intro p hp
      rcases List.mem_cons.1 hp with rfl | hp
      · exact ⟨A, c, rfl, r0⟩
      · rw [List.mem_singleton.1 hp]; exact ⟨B, d, rfl, r1⟩
theorem open_pairs {t e be : TypeId} {f0 f1 : Field} (hs : P.underlying t = some (.slice e)) (ht : P.underlying e = some (.struct #[f0, f1])) (hct : P.cellsOf e = 2) (ho : f0.offset = 0 ∧ f1.offset = 1) (h0 : P.underlying f0.type = some (.slice be)) (h1 : P.underlying f1.type = some (.slice be)) (hc0 : P.cellsOf f0.type = 1 ∧ P.cellsOf f1.type = 1) (hb : P.underlying be = some (.int .u8)) (hcb : P.cellsOf be = 1)
    {r : Reach} {b0 : Nat} {v : Value} {d : DataW H} {p : List MemPlace} (hval : Value.okWide P W r b0 t v) (h : DataW.Trod enc P W base spare held t v d p) :
    ∃ (A : Option Addr) (c : Nat) (xs : List Pr), v = .slice A xs.length c ∧ xs.length ≤ c ∧ c ≤ maxLen ∧ Els prEl W A xs ∧ (d = .nil ∧ xs = [] ∨ ∃ el sp, d = .slice el sp ∧ el.length = xs.length ∧ sp.length ≤ c) := by
  obtain ⟨A, c, l, hv, h1, h2, _, h3, h4, h5⟩ := open_arg (sz := 2) prEl.cells _ hs hct prEl.len (inv_pair ht hct ho h0 h1 hc0 hb hcb) hval h
  exact ⟨A, c, l, hv, h1, h2, ⟨h3, h4⟩, h5⟩
theorem reach48 {P : Program} {e n : Nat} (he : P.bytesOf e = 48) (h : n * P.bytesOf e ≤ reachBytes) : n ≤ 2932031007403 := by
  rw [he] at h; simp [reachBytes] at h; omega
end
end Go.Cov

