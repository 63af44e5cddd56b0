import Derived.WalkKit
import Derived.WalkLawsBesides
import Derived.Maps.AppendAt
import Derived.Laws.AppendOwnNone
import Derived.Laws.IdiomStrings
import Derived.Laws.BytesString
import Derived.Deep.RegionHeld3
import Derived.ProofKit
import Derived.OpenShut
import Derived.ShutString
import Derived.ChangeOld
import Derived.Below
import Derived.Deep.Slices
import Derived.SizedLaws
import Derived.Lib.BytesEntry
import Derived.Lib.Bytealg
import Derived.ArgAppend
import Derived.Deep.DeepCutAuto
import Derived.Deep.MidRow
/-
  Lemmas of this claim's own on slices in memory: what a slice value reads as, what a call owns, append onto what it owns. Over any program.
-/
namespace Go.Cov
open Go.RowKit

/-- A fact kept from the walk. -/
theorem hid {p : Prop} (h : p) : Hid p := h

/-- a byte -/
def byt (b : UInt8) : Value := .int .u8 b.toNat
theorem ne_nil {α : Type} {n : Nat} {xs : List α} (h : n < xs.length) : xs ≠ [] := by rintro rfl; simp at h
theorem block_add (a : Addr) (n : Nat) : (a.add n).block = a.block := by unfold Addr.add; split <;> rfl
theorem add_add' (a : Addr) (i j : Nat) : (a.add i).add j = a.add (i + j) := by
  unfold Addr.add
  by_cases hi : i = 0 <;> by_cases hj : j = 0 <;> simp [hi, hj, Nat.add_assoc]
theorem add_none (b o n : Nat) : (⟨b, o, none⟩ : Addr).add n = ⟨b, o + n, none⟩ := by
  unfold Addr.add; split <;> simp_all

/-- The cells xs lie from A on; of no cell nothing is asked. -/
def Rd (w : World) (A : Option Addr) (xs : List Value) : Prop := ∀ j u, xs[j]? = some u → ∃ ad, A = some ad ∧ w.cell? (ad.add j) = some u

section
variable {w w' : World} {A : Option Addr} {xs : List Value}
theorem Rd.nil (w : World) (A : Option Addr) : Rd w A [] := fun j u h => by simp at h
theorem Rd.addr (h : Rd w A xs) (hne : xs ≠ []) : ∃ ad, A = some ad ∧ ∀ j u, xs[j]? = some u → w.cell? (ad.add j) = some u := by
  cases xs with
  | nil => exact absurd rfl hne
  | cons x l =>
    obtain ⟨ad, hA, _⟩ := h 0 x rfl
    refine ⟨ad, hA, fun j u hj => ?_⟩
    obtain ⟨ad', hA', hc⟩ := h j u hj
    rw [hA] at hA'
    cases hA'
    exact hc
theorem Rd.keep (h : Rd w A xs) (hk : ∀ p v, w.cell? p = some v → w'.cell? p = some v) : Rd w' A xs := fun j u hj => by
  obtain ⟨ad, hA, hc⟩ := h j u hj
  exact ⟨ad, hA, hk _ _ hc⟩
theorem cell_lt {p : Addr} {v : Value} (h : w.cell? p = some v) : p.block < w.heap.size := World.block_lt_of_cell? w p h
theorem Rd.below (h : Rd w A xs) (hb : Below w.heap.size w w') : Rd w' A xs := h.keep fun _ _ hc => (hb.cell (cell_lt hc)).trans hc
theorem Rd.at' (h : Rd w A xs) {j : Nat} {u : Value} (hj : xs[j]? = some u) : ∃ ad, A = some ad ∧ w.cell? (ad.add j) = some u := h j u hj
theorem Rd.drew (h : Rd w A xs) : Rd w.drew A xs := h
theorem Rd.alloc (h : Rd w A xs) (o : Obj) : Rd (w.alloc o) A xs := h.below ((Below.refl _ _).alloc (Nat.le_refl _) o)
theorem Rd.cut (h : Rd w A xs) (k : Nat) {c : Prop} [Decidable c] (hc : c → xs.length ≤ k) : Rd w (if c then A else A.map (·.add k)) (xs.drop k) := fun j u hj => by
  rw [List.getElem?_drop] at hj
  have hlt : k + j < xs.length := (List.getElem?_eq_some_iff.1 hj).1
  rw [if_neg (fun hh => by have := hc hh; omega)]
  obtain ⟨ad, hA, hcell⟩ := h _ _ hj
  exact ⟨ad.add k, by rw [hA]; rfl, by rw [add_add']; exact hcell⟩
theorem Rd.cut' (h : Rd w A xs) (k : Nat) : Rd w (A.map (·.add k)) (xs.drop k) := fun j u hj => by
  rw [List.getElem?_drop] at hj
  obtain ⟨ad, hA, hcell⟩ := h _ _ hj
  exact ⟨ad.add k, by rw [hA]; rfl, by rw [add_add']; exact hcell⟩
theorem Rd.take (h : Rd w A xs) (k : Nat) : Rd w A (xs.take k) := fun j u hj => by
  rw [List.getElem?_take] at hj
  split at hj
  · exact h j u hj
  · cases hj
end

/-! ### a cut -/
/-- Where 'x[k:]' begins. -/
def cutA (A : Option Addr) (c k size : Nat) : Option Addr := if c = k then A else A.map (·.add (k * size))
theorem Rd.cutA {w : World} {A : Option Addr} {xs : List Value} (h : Rd w A xs) (k size : Nat) {c : Nat} (hc : xs.length ≤ c * size) : Rd w (cutA A c k size) (xs.drop (k * size)) := by
  unfold Go.Cov.cutA
  exact h.cut (k * size) (by rintro rfl; exact hc)
theorem run_slice_from {P : Program} {t e : TypeId} {z : Value} {size bytes : Nat} (ht : P.underlying t = some (.slice e)) (hinfo : (P.info? e).map (fun i => (i.zero, i.size, i.bytes)) = some (some z, size, bytes))
    (A : Option Addr) (n c k : Nat) (kd : IntKind) (i : Int) (hi : i = k) (hk : k ≤ n) (w : World) :
    (Instr.sliceAt t (.slice A n c) (some (.int kd i)) none none).run P w = .ok (.slice (cutA A c k size) (n - k) (c - k)) w := by
  subst hi
  obtain ⟨inf, hinf, _, hz1, _⟩ := info_parts hinfo
  simp [Instr.sliceAt, run_underlying ht, Instr.slice, Instr.sliceBounds, Instr.sliceBound, asIntOf, sizeOf, typeInfo, hinf, hz1, cutA, hk]
theorem run_slice_mid {P : Program} {t e : TypeId} {z : Value} {size bytes : Nat} (ht : P.underlying t = some (.slice e)) (hinfo : (P.info? e).map (fun i => (i.zero, i.size, i.bytes)) = some (some z, size, bytes))
    (A : Option Addr) (n c k m : Nat) (kd kd' : IntKind) (i j : Int) (hi : i = k) (hj : j = m) (hk : k ≤ m) (hc : m ≤ c) (w : World) :
    (Instr.sliceAt t (.slice A n c) (some (.int kd i)) (some (.int kd' j)) none).run P w = .ok (.slice (cutA A c k size) (m - k) (c - k)) w := by
  subst hi hj
  obtain ⟨inf, hinf, _, hz1, _⟩ := info_parts hinfo
  simp [Instr.sliceAt, run_underlying ht, Instr.slice, Instr.sliceBounds, Instr.sliceBound, asIntOf, sizeOf, typeInfo, hinf, hz1, cutA, hk, hc]

/-! ### what the call owns -/
section
variable {w w' : World} {base : Nat} {e : TypeId} {size : Nat} {v : Value} {n : Nat} {xs : List Value}
theorem own_shape (h : w.ownsRow base e size v n xs) : ∃ A c, v = .slice A n c ∧ n ≤ c ∧ c ≤ maxLen ∧ (A = none → n = 0 ∧ c = 0) := by
  rcases h.2 with ⟨rfl, rfl⟩ | ⟨g, cap, cur, rfl, _, _, hnc, hcm, _⟩
  · exact ⟨none, 0, rfl, Nat.le_refl _, by simp [maxLen], fun _ => ⟨rfl, rfl⟩⟩
  · exact ⟨_, cap, rfl, hnc, hcm, fun h => by cases h⟩
theorem own_rd {A : Option Addr} {c : Nat} (h : w.ownsRow base e size (.slice A n c) n xs) : Rd w A xs := by
  intro j u hj
  rcases h.2 with ⟨hv, rfl⟩ | ⟨g, cap, cur, hv, _⟩
  · have : xs = [] := List.eq_nil_of_length_eq_zero (by simpa using h.1)
    subst this
    simp at hj
  · injection hv with hA
    subst hA
    exact ⟨_, rfl, h.cells (g := g) rfl j u hj⟩
theorem own_below (h : w.ownsRow base e size v n xs) (hb : Below w.heap.size w w') : w'.ownsRow base e size v n xs :=
  h.kept (row := none) ⟨hb.os, hb.tape, hb.output, hb.size, fun k hk _ => hb.block k hk⟩ (by cases v.ownBlock <;> simp)
theorem own_mono {base' : Nat} (h : w.ownsRow base e size v n xs) (hb : base' ≤ base) : w.ownsRow base' e size v n xs := by
  refine ⟨h.1, ?_⟩
  rcases h.2 with h2 | ⟨g, cap, cur, hv, hg, r⟩
  · exact .inl h2
  · exact .inr ⟨g, cap, cur, hv, by omega, r⟩
theorem own_lt (h : w.ownsRow base e size v n xs) {k : Nat} (hk : v.ownBlock = some k) : base ≤ k ∧ k < w.heap.size := h.lt k hk
end

theorem grown_after {a b c : World} {row row2 : Option Nat} (h : a.grownBy b row) (k : b.grownBy c row2) (hr : ∀ j, row2 = some j → a.heap.size ≤ j ∨ row2 = row) : a.grownBy c row := by
  refine ⟨k.os.trans h.os, k.tape.trans h.tape, k.output.trans h.output, Nat.le_trans h.size k.size, fun i hi hne => (k.block i (Nat.lt_of_lt_of_le hi h.size) ?_).trans (h.block i hi hne)⟩
  intro he
  rcases hr i he.symm with h1 | h1
  · omega
  · exact hne (he.trans h1)
theorem grown_of_below {a b : World} (h : Below a.heap.size a b) (row : Option Nat) : a.grownBy b row := ⟨h.os, h.tape, h.output, h.size, fun k hk _ => h.block k hk⟩
theorem below_of_grown {a b : World} (h : a.grownBy b none) : Below a.heap.size a b := ⟨h.os, h.tape, h.output, h.size, fun k hk => h.block k hk (by simp)⟩
theorem grown_alloc {a b : World} {row : Option Nat} (h : a.grownBy b row) (o : Obj) : a.grownBy (b.alloc o) row := grown_after h (World.grownBy_alloc b o none) (by simp)
theorem grown_drew {a b : World} {row : Option Nat} (h : a.grownBy b row) : a.grownBy b.drew row := ⟨h.os, h.tape, h.output, h.size, h.block⟩
theorem own_ne {w : World} {base : Nat} {e : TypeId} {size : Nat} {v : Value} {n : Nat} {xs : List Value} (h : w.ownsRow base e size v n xs) {k : Nat} (hk : k < base) : some k ≠ v.ownBlock := by
  intro he
  have := (own_lt h he.symm).1
  omega

/-! ### append onto what the call owns -/
section
variable {P : Program} {w : World}
theorem wpList_wanted {ops : Array Oper} {rest : List Oper} {o : Oper} {a : Act} {Q : Exit → Act → World → Prop} (hw : Region.wanted o (yielded ops a.tmps) = true)
    (h : ∀ K : Act → World → Prop, (∀ a w, wpList P ops Q rest a w → K a w) → o.wp P a w K Q) : wpList P ops Q (o :: rest) a w :=
  wpList_step fun K hK => by rw [if_pos hw]; exact h K hK
theorem wpList_app {ops : Array Oper} {rest : List Oper} {o : Oper} {a : Act} {Q : Exit → Act → World → Prop} (hgd : Region.wanted o (yielded ops a.tmps) = true) (s x : Operand) (t : TypeId)
    (ho : o.op = .call { callee := .builtin .append, args := #[s, x], argTypes := #[t, t] })
    (base : Nat) (e : TypeId) {z : Value} {size bytes : Nat} (ht : P.underlying t = some (.slice e)) (hinfo : (P.info? e).map (fun i => (i.zero, i.size, i.bytes)) = some (some z, size, bytes))
    (hzs : z.cells.size = size) (hsz : 0 < size)
    (v : Value) (n : Nat) (xs : List Value) (hs : a.eval s = v) (hown : w.ownsRow base e size v n xs)
    (A : Option Addr) (m c : Nat) (news : List Value) (hx : a.eval x = .slice A m c) (hl : news.length = m * size) (hr : Rd w A news) (h1 : ∀ u ∈ news, u.oneCell' = true)
    (h63 : (n + m) * bytes ≤ 140737488355328) (h64 : n + m ≤ 140737488355328) (hbase : base ≤ w.heap.size)
    (h : ∀ v' w', w'.ownsRow base e size v' (n + m) (xs ++ news) → w.grownBy w' v.ownBlock → (v'.ownBlock = v.ownBlock ∨ v'.ownBlock = some w.heap.size) → wpList P ops Q rest (a.put o.dst v') w') :
    wpList P ops Q (o :: rest) a w := by
  obtain ⟨i, hi, hz0, hz1, hz2⟩ := info_parts hinfo
  by_cases hA : A = none
  · subst hA
    have hnews : news = [] := by
      cases news with
      | nil => rfl
      | cons y l => obtain ⟨ad, hn, _⟩ := hr 0 y rfl; cases hn
    subst hnews
    have hm : m = 0 := by
      rcases Nat.eq_zero_or_pos m with h0 | h0
      · exact h0
      · have := Nat.mul_pos h0 hsz
        simp at hl
        omega
    subst hm
    refine wpList_wanted hgd fun K hK => ?_
    have hrun : (Builtin.append_ #[t, t] o.type #[v, .slice none 0 c]).run P w = .ok v w := by
      rcases hown.2 with ⟨rfl, rfl⟩ | ⟨g, cap, cur, rfl, _, _, hnc, _⟩
      · simp [Builtin.append_, run_underlying ht, sizeOf, typeInfo, hi, Builtin.lenOf, Builtin.firstCells]
      · simp [Builtin.append_, run_underlying ht, sizeOf, typeInfo, hi, Builtin.lenOf, Builtin.firstCells, hnc, storeCells]
    unfold Oper.wp execOp
    simp only [ho, resolve, invoke, builtin, Sem.run_bind, Sem.run_pure, Result.andThen_ok, List.map_toArray, List.map_cons, List.map_nil, hs, hx, hrun]
    exact hK _ _ (h v w (by simpa using hown) (World.grownBy.refl w _) (.inl rfl))
  · obtain ⟨ad, rfl⟩ : ∃ ad, A = some ad := by cases A with
      | none => exact absurd rfl hA
      | some ad => exact ⟨ad, rfl⟩
    have hcells : ∀ j u, news[j]? = some u → w.cell? (ad.add j) = some u := by
      intro j u hj
      obtain ⟨ad', he, hc⟩ := hr j u hj
      cases he
      exact hc
    refine wpList_wanted hgd fun K hK => ?_
    obtain ⟨v', w', hrun, h2, h3, _, h5⟩ := run_append_own_at (P := P) w base t o.type e i z size bytes ht hi hz0 hz1 hz2 hzs hsz v n xs hown ad m c news hl hcells h1 (by simp only [maxLen]; omega) h63 hbase
    unfold Oper.wp execOp
    simp only [ho, resolve, invoke, builtin, Sem.run_bind, Sem.run_pure, Result.andThen_ok, List.map_toArray, List.map_cons, List.map_nil, hs, hx, hrun]
    exact hK _ _ (h v' w' h2 h3 h5)
/-- 'make([]T, 0, n)' -/
theorem wpList_mk0 {ops : Array Oper} {rest : List Oper} {o : Oper} {a : Act} {Q : Exit → Act → World → Prop} (hgd : o.guard = none) (l c : Operand) (t : TypeId) (ho : o.op = Op.makeSlice t l c)
    (base : Nat) (e : TypeId) {z : Value} {size bytes : Nat} (ht : P.underlying t = some (.slice e)) (hinfo : (P.info? e).map (fun i => (i.zero, i.size, i.bytes)) = some (some z, size, bytes))
    {kl kc : IntKind} {C : Int} (n : Nat) (hl : a.eval l = .int kl 0) (hc : a.eval c = .int kc C) (hC : C = (n : Int)) (b2 : bytes * n ≤ 281474976710656) (b3 : n ≤ 9223372036854775807) (hbase : base ≤ w.heap.size)
    (hK : ∀ w', w'.ownsRow base e size (.slice (some ⟨w.heap.size, 0, none⟩) 0 n) 0 [] → w.grownBy w' none → wpList P ops Q rest (a.put o.dst (.slice (some ⟨w.heap.size, 0, none⟩) 0 n)) w') :
    wpList P ops Q (o :: rest) a w := by
  obtain ⟨i, hi, hz0, hz1, hz2⟩ := info_parts hinfo
  exact wpList_make_own w hgd l c t ho base e i z size ht hi hz0 hz1 kl kc C n hl hc hC (by rw [hz2]; exact b2) (by simp only [maxLen]; omega) hbase hK
/-- 'make([]T, n)' -/
theorem wpList_mkn {ops : Array Oper} {rest : List Oper} {o : Oper} {a : Act} {Q : Exit → Act → World → Prop} (hgd : o.guard = none) (l c : Operand) (t : TypeId) (ho : o.op = Op.makeSlice t l c)
    (base : Nat) (e : TypeId) {z : Value} {size bytes : Nat} (ht : P.underlying t = some (.slice e)) (hinfo : (P.info? e).map (fun i => (i.zero, i.size, i.bytes)) = some (some z, size, bytes))
    {kl kc : IntKind} {L C : Int} (n : Nat) (hl : a.eval l = .int kl L) (hc : a.eval c = .int kc C) (hL : L = (n : Int)) (hC : C = (n : Int)) (b2 : bytes * n ≤ 281474976710656) (b3 : n ≤ 9223372036854775807) (hbase : base ≤ w.heap.size)
    (hK : ∀ w', w'.ownsRow base e size (.slice (some ⟨w.heap.size, 0, none⟩) n n) n (madeCells z.cells (n * size)).toList → w.grownBy w' none → wpList P ops Q rest (a.put o.dst (.slice (some ⟨w.heap.size, 0, none⟩) n n)) w') :
    wpList P ops Q (o :: rest) a w := by
  obtain ⟨i, hi, hz0, hz1, hz2⟩ := info_parts hinfo
  exact wpList_make_full w hgd l c t ho base e i z size ht hi hz0 hz1 kl kc L C n hl hc hL hC (by rw [hz2]; exact b2) (by simp only [maxLen]; omega) hbase hK
/-- A slice of bytes to a string. -/
def str (l : List UInt8) : ByteArray := ⟨l.toArray⟩
theorem str_inj {l l' : List UInt8} (h : str l = str l') : l = l' := by
  have := congrArg ByteArray.data h
  simpa [str] using this
theorem conv_bs {src dst e : TypeId} (hs : P.underlying src = some (.slice e)) (he : P.underlying e = some (.int .u8)) (hd : P.underlying dst = some .string) {A : Option Addr} {l : List UInt8} (h : Rd w A (l.map byt)) (cap : Nat) :
    (convert src dst (.slice A l.length cap)).run P w = .ok (.string (str l)) w := by
  cases l with
  | nil =>
    cases A with
    | none => exact run_convert_bytes_string w src dst e none 0 cap hs he hd
    | some ad => exact run_convert_bytes_back w src dst e ad cap [] hs he hd (by intro j hj; simp at hj)
  | cons b l =>
    obtain ⟨ad, rfl, _⟩ := h 0 (byt b) rfl
    refine run_convert_bytes_back w src dst e ad cap (b :: l) hs he hd fun j hj => ?_
    obtain ⟨ad', he', hc⟩ := h j (byt (b :: l)[j]) (by rw [List.getElem?_map, List.getElem?_eq_getElem hj]; rfl)
    cases he'
    exact hc
theorem rd_box (w : World) (cs : Array Value) (t : TypeId) : Rd (w.alloc (.cells cs t)) (some ⟨w.heap.size, 0, none⟩) cs.toList := by
  intro j u hj
  refine ⟨_, rfl, ?_⟩
  rw [add_none, cell_of_row (w.alloc (.cells cs t)) w.heap.size (0 + j) cs t (0, 0) (heap_alloc_new w _)]
  simpa using hj
end
end Go.Cov


namespace Go.Cov
/-- byte number i of a number, the lowest is number 0 -/
def bt (n : Int) (i : Nat) : UInt8 := UInt8.ofNat (n / 2 ^ (8 * i) % 256).toNat
theorem bt_int (n : Int) (i : Nat) : ((bt n i).toNat : Int) = n / 2 ^ (8 * i) % 256 := by
  unfold bt
  have h0 : 0 ≤ n / 2 ^ (8 * i) % 256 := Int.emod_nonneg _ (by decide)
  have h1 : n / 2 ^ (8 * i) % 256 < 256 := Int.emod_lt_of_pos _ (by decide)
  generalize n / 2 ^ (8 * i) % 256 = m at h0 h1
  have : (UInt8.ofNat m.toNat).toNat = m.toNat % 256 := by simp
  rw [this]
  omega
/-- so many bytes of a number, the highest first -/
def be : Nat → Int → List UInt8
  | 0, _ => []
  | s + 1, n => bt n s :: be s n
theorem be_length : ∀ (s : Nat) (n : Int), (be s n).length = s
  | 0, _ => rfl
  | s + 1, n => by rw [be, List.length_cons, be_length s n]
theorem be_at : ∀ (s : Nat) (n : Int) (j : Nat), j < s → (be s n)[s - 1 - j]? = some (bt n j)
  | 0, _, _, h => by omega
  | s + 1, n, j, h => by
    by_cases hj : j = s
    · subst hj
      rw [show j + 1 - 1 - j = 0 by omega, be]; rfl
    · rw [show s + 1 - 1 - j = (s - 1 - j) + 1 by omega, be, List.getElem?_cons_succ]
      exact be_at s n j (by omega)
/-- the number that bytes make -/
def nat (l : List UInt8) : Nat := l.foldl (fun a c => a * 256 + c.toNat) 0
theorem nat_snoc (l : List UInt8) (c : UInt8) : nat (l ++ [c]) = nat l * 256 + c.toNat := by simp [nat]
end Go.Cov


namespace Go.Cov
open Go.RowKit
/-- the int64 that bytes make, the highest first -/
def gv (l : List UInt8) : Int := l.foldl (fun v c => wrap64 (v * 256 + c.toNat)) 0
theorem gv_snoc (l : List UInt8) (c : UInt8) : gv (l ++ [c]) = wrap64 (gv l * 256 + c.toNat) := by simp [gv]
theorem gv_step (l : List UInt8) (k : Nat) (h : k < l.length) : gv (l.take (k + 1)) = wrap64 (gv (l.take k) * 256 + l[k].toNat) := by
  rw [List.take_succ_eq_append_getElem h, gv_snoc]
theorem wrap_is (n : Int) : IntKind.i64.wrap n = wrap64 n := by
  simp only [wrap64, IntKind.wrap, IntKind.signed, IntKind.bits]
  simp
  omega
theorem or_step (v : Int) (x : UInt8) : bits .or .i64 (wrap64 (v * 256)) (wrap64 (x.toNat : Int)) = wrap64 (v * 256 + x.toNat) := by
  show IntKind.i64.wrap (((BitVec.ofInt 64 (wrap64 (v * 256)) ||| BitVec.ofInt 64 (wrap64 (x.toNat : Int))).toNat : Nat) : Int) = _
  have hx := x.toNat_lt
  rw [BitVec.toNat_or, BitVec.toNat_ofInt, BitVec.toNat_ofInt, wrap_is]
  obtain ⟨q, hq⟩ : ∃ q : Nat, (wrap64 (v * 256) % ((2 ^ 64 : Nat) : Int)).toNat = 2 ^ 8 * q := by
    refine ⟨(v % 72057594037927936).toNat, ?_⟩
    simp only [wrap64]
    omega
  have hb : (wrap64 (x.toNat : Int) % ((2 ^ 64 : Nat) : Int)).toNat = x.toNat := by
    simp only [wrap64]
    omega
  have hv : (2 ^ 8 * q : Nat) = (v * 256 % 18446744073709551616 : Int) := by
    rw [← hq]; simp only [wrap64]; omega
  rw [hq, hb, ← Nat.two_pow_add_eq_or_of_lt hx]
  simp only [wrap64]
  omega
theorem gv_nat (l : List UInt8) : gv l = wrap64 (nat l) := by
  suffices h : ∀ (l : List UInt8) (v : Int) (a : Nat), v = wrap64 a → l.foldl (fun v c => wrap64 (v * 256 + c.toNat)) v = wrap64 ((l.foldl (fun a c => a * 256 + c.toNat) a : Nat) : Int) from h l 0 0 (by simp [wrap64])
  intro l
  induction l with
  | nil => intro v a h; exact h
  | cons c l ih =>
    intro v a h
    simp only [List.foldl_cons]
    apply ih
    rw [h]
    simp only [wrap64]
    omega
theorem nat_lt (l : List UInt8) : nat l < 256 ^ l.length := by
  suffices h : ∀ (l : List UInt8) (a : Nat) (s : Nat), a < 256 ^ s → l.foldl (fun a c => a * 256 + c.toNat) a < 256 ^ (s + l.length) from by
    have := h l 0 0 (by simp); simpa [nat] using this
  intro l
  induction l with
  | nil => intro a s h; simpa using h
  | cons c l ih =>
    intro a s h
    simp only [List.foldl_cons, List.length_cons]
    have := ih (a * 256 + c.toNat) (s + 1) (by
      have hc := c.toNat_lt
      rw [Nat.pow_succ]
      omega)
    rw [show s + 1 + l.length = s + (l.length + 1) by omega] at this
    exact this
end Go.Cov


/-! what the functions of 'wire' answer, in plain lists and numbers -/
namespace Go.Cov
open Go.RowKit
/-- what 'get' answers -/
def getR (l : List UInt8) (a : Int) (s : Nat) : Int × Int × Int :=
  if a < 0 ∨ (l.length : Int) < a then (0, 0, 1) else if (l.length : Int) - a < s then (0, 0, 11) else (gv ((l.drop a.toNat).take s), a + s, 0)
/-- what 'Bool' makes of what 'get' answers -/
def boolOf (g : Int × Int × Int) : Bool × Int × Int :=
  if g.2.2 = 0 then (if 1 < g.1 then (false, 0, 12) else (g.1 == 1, g.2.1, 0)) else (false, 0, g.2.2)
/-- what 'Bool' answers -/
def boolR (l : List UInt8) (a : Int) : Bool × Int × Int := boolOf (getR l a 1)
/-- a truth's byte -/
def tb (b : Bool) : UInt8 := if b then 1 else 0
theorem be_tb (b : Bool) : be 1 (if b then 1 else 0) = [tb b] := by cases b <;> rfl
theorem gv_one (x : UInt8) : gv [x] = (x.toNat : Int) := by
  have := x.toNat_lt
  have e : nat [x] = x.toNat := by simp [nat]
  rw [gv_nat, e]
  simp only [wrap64]
  omega
theorem be_get (s : Nat) (n : Int) (k : Nat) (h : k < s) : (be s n).take (k + 1) = (be s n).take k ++ [bt n (s - 1 - k)] := by
  have hk : k < (be s n).length := by rw [be_length]; exact h
  rw [List.take_succ_eq_append_getElem hk]
  have := be_at s n (s - 1 - k) (by omega)
  rw [show s - 1 - (s - 1 - k) = k by omega, List.getElem?_eq_getElem hk] at this
  injection this with this
  rw [this]
/-- what 'sized' makes of what 'get' answers -/
def sizeOf' (g : Int × Int × Int) (most : Nat) : Int × Int × Int := if g.2.2 = 0 ∧ (most : Int) < g.1 then (0, 0, 2) else g
/-- what 'sized' answers -/
def sizeR (l : List UInt8) (a : Int) (most : Nat) : Int × Int × Int := sizeOf' (getR l a 4) most
/-- a text's bytes -/
def tx (s : List UInt8) : List UInt8 := be 4 s.length ++ s
/-- what 'Bytes' answers -/
def bytesR (l : List UInt8) (a : Int) : List UInt8 × Int × Int :=
  if (sizeR l a 65536).2.2 = 0 then
    (if (l.length : Int) - (sizeR l a 65536).2.1 < (sizeR l a 65536).1 then ([], 0, 11) else
      ((l.drop (sizeR l a 65536).2.1.toNat).take (sizeR l a 65536).1.toNat, (sizeR l a 65536).2.1 + (sizeR l a 65536).1, 0))
  else ([], 0, (sizeR l a 65536).2.2)
/-- ahead of the rest of a row -/
def preRow (acc : List (List UInt8)) (r : List (List UInt8) × Int × Int) : List (List UInt8) × Int × Int := if r.2.2 = 0 then (acc ++ r.1, r.2.1, 0) else ([], 0, r.2.2)
/-- so many texts that stand at a place -/
def rowGo (l : List UInt8) : Nat → Int → List (List UInt8) × Int × Int
  | 0, p => ([], p, 0)
  | n + 1, p => if (bytesR l p).2.2 = 0 then preRow [(bytesR l p).1] (rowGo l n (bytesR l p).2.1) else ([], 0, (bytesR l p).2.2)
/-- what 'Row' answers -/
def rowR (l : List UInt8) (a : Int) : List (List UInt8) × Int × Int :=
  if (sizeR l a 1024).2.2 = 0 then rowGo l (sizeR l a 1024).1.toNat (sizeR l a 1024).2.1 else ([], 0, (sizeR l a 1024).2.2)
/-- is no text of a row too long? -/
def fits (ls : List (List UInt8)) : Bool := ls.all fun s => decide (s.length ≤ 65536)
/-- a row's bytes -/
def rw' (ls : List (List UInt8)) : List UInt8 := be 4 ls.length ++ ls.flatMap tx
theorem tx_length (s : List UInt8) : (tx s).length = 4 + s.length := by simp [tx, be_length]
theorem getR_cases (l : List UInt8) (a : Int) (s : Nat) :
    (a < 0 ∨ (l.length : Int) < a) ∧ getR l a s = (0, 0, 1) ∨ (∃ k : Nat, a = k ∧ k ≤ l.length ∧ l.length < k + s) ∧ getR l a s = (0, 0, 11) ∨
    ∃ k : Nat, a = k ∧ k + s ≤ l.length ∧ getR l a s = (gv ((l.drop k).take s), (k : Int) + s, 0) := by
  by_cases h1 : a < 0 ∨ (l.length : Int) < a
  · left; exact ⟨h1, by rw [getR, if_pos h1]⟩
  · right
    obtain ⟨k, rfl⟩ : ∃ k : Nat, a = k := ⟨a.toNat, by omega⟩
    by_cases h2 : (l.length : Int) - k < s
    · left; exact ⟨⟨k, rfl, by omega, by omega⟩, by rw [getR, if_neg h1, if_pos h2]⟩
    · right; exact ⟨k, rfl, by omega, by rw [getR, if_neg h1, if_neg h2]; rfl⟩
theorem gv4 (l : List UInt8) (h : l.length ≤ 4) : gv l = (nat l : Int) ∧ nat l < 4294967296 := by
  have h1 := nat_lt l
  have h2 : 256 ^ l.length ≤ 256 ^ 4 := Nat.pow_le_pow_right (by decide) h
  have h3 : nat l < 4294967296 := by
    have : (256 : Nat) ^ 4 = 4294967296 := by decide
    omega
  refine ⟨?_, h3⟩
  rw [gv_nat]
  generalize nat l = m at h3
  simp only [wrap64]
  omega
theorem sizeR_cases (l : List UInt8) (a : Int) (most : Nat) :
    (∃ e : Int, (e = 1 ∨ e = 2 ∨ e = 11) ∧ sizeR l a most = (0, 0, e)) ∨
    ∃ k : Nat, a = k ∧ k + 4 ≤ l.length ∧ nat ((l.drop k).take 4) ≤ most ∧ sizeR l a most = ((nat ((l.drop k).take 4) : Int), (k : Int) + 4, 0) := by
  unfold sizeR
  rcases getR_cases l a 4 with ⟨_, h⟩ | ⟨_, h⟩ | ⟨k, hk, hl, h⟩
  · left; exact ⟨1, .inl rfl, by rw [h, sizeOf', if_neg (by simp)]⟩
  · left; exact ⟨11, .inr (.inr rfl), by rw [h, sizeOf', if_neg (by simp)]⟩
  · have hg := gv4 ((l.drop k).take 4) (by simp; omega)
    rw [h, hg.1]
    by_cases hm : (most : Int) < (nat ((l.drop k).take 4) : Int)
    · left; exact ⟨2, .inr (.inl rfl), by rw [sizeOf', if_pos ⟨rfl, hm⟩]⟩
    · right; exact ⟨k, hk, hl, by omega, by rw [sizeOf', if_neg (fun hh => hm hh.2)]; rfl⟩
theorem bytesR_cases (l : List UInt8) (a : Int) :
    (∃ e : Int, (e = 1 ∨ e = 2 ∨ e = 11) ∧ bytesR l a = ([], 0, e)) ∨
    ∃ k n : Nat, a = k ∧ n = nat ((l.drop k).take 4) ∧ n ≤ 65536 ∧ k + 4 + n ≤ l.length ∧ sizeR l a 65536 = ((n : Int), (k : Int) + 4, 0) ∧ bytesR l a = ((l.drop (k + 4)).take n, (k : Int) + 4 + n, 0) := by
  rcases sizeR_cases l a 65536 with ⟨e, he, h⟩ | ⟨k, hk, hl, hm, h⟩
  · left; refine ⟨e, he, ?_⟩
    rw [bytesR, h, if_neg (by rcases he with rfl | rfl | rfl <;> decide)]
  · generalize hn : nat ((l.drop k).take 4) = n at hm h
    by_cases h2 : (l.length : Int) - (k + 4) < n
    · left; exact ⟨11, .inr (.inr rfl), by rw [bytesR, h, if_pos rfl, if_pos h2]⟩
    · right; refine ⟨k, n, hk, hn.symm, hm, by omega, h, ?_⟩
      rw [bytesR, h, if_pos rfl, if_neg h2]
      rw [show ((k : Int) + 4).toNat = k + 4 by omega]
      rfl
theorem preRow_ok (acc : List (List UInt8)) (r : List (List UInt8)) (p : Int) : preRow acc (r, p, 0) = (acc ++ r, p, 0) := by simp [preRow]
theorem preRow_preRow (acc : List (List UInt8)) (x : List UInt8) (r : List (List UInt8) × Int × Int) : preRow acc (preRow [x] r) = preRow (acc ++ [x]) r := by
  obtain ⟨a, b, c⟩ := r
  by_cases h : c = 0
  · subst h; simp [preRow]
  · simp [preRow, h]
theorem preRow_nil (r : List (List UInt8) × Int × Int) (h : r.2.2 = 0 ∨ r.1 = [] ∧ r.2.1 = 0) : preRow [] r = r := by
  obtain ⟨a, b, c⟩ := r
  by_cases h0 : c = 0
  · subst h0; simp [preRow]
  · simp only [h0, false_or] at h
    obtain ⟨rfl, rfl⟩ := h
    simp [preRow, h0]
theorem rowGo_pre (l : List UInt8) (n : Nat) (p : Int) : preRow [] (rowGo l n p) = rowGo l n p := by
  cases n with
  | zero => simp [rowGo, preRow]
  | succ n =>
    rw [rowGo]
    by_cases h : (bytesR l p).2.2 = 0
    · rw [if_pos h, preRow_preRow]; rfl
    · rw [if_neg h, preRow, if_neg h]
theorem preRow_step {l : List UInt8} {acc : List (List UInt8)} {n k : Nat} {p q : Int} {x : List UInt8} (hk : k < n) (hb : bytesR l p = (x, q, 0)) : preRow acc (rowGo l (n - k) p) = preRow (acc ++ [x]) (rowGo l (n - (k + 1)) q) := by
  rw [show n - k = (n - (k + 1)) + 1 by omega, rowGo, hb, if_pos rfl, preRow_preRow]
theorem preRow_stop {l : List UInt8} {acc : List (List UInt8)} {n k : Nat} {p q er : Int} {x : List UInt8} (hk : k < n) (hb : bytesR l p = (x, q, er)) (he : er ≠ 0) : preRow acc (rowGo l (n - k) p) = ([], 0, er) := by
  rw [show n - k = (n - (k + 1)) + 1 by omega, rowGo, hb, if_neg he, preRow, if_neg he]
theorem preRow_len (acc : List (List UInt8)) (r : List (List UInt8) × Int × Int) : (preRow acc r).1.length ≤ acc.length + r.1.length := by
  unfold preRow; split <;> simp
theorem rowGo_len (l : List UInt8) : ∀ (n : Nat) (p : Int), (rowGo l n p).1.length ≤ n
  | 0, _ => by simp [rowGo]
  | n + 1, p => by
    rw [rowGo]
    split
    · have := preRow_len [(bytesR l p).1] (rowGo l n (bytesR l p).2.1)
      have := rowGo_len l n (bytesR l p).2.1
      simp only [List.length_cons, List.length_nil] at *
      omega
    · simp
theorem rowR_le (l : List UInt8) (a : Int) : (rowR l a).1.length ≤ 1024 := by
  rcases sizeR_cases l a 1024 with ⟨e, he, hz⟩ | ⟨k, rfl, hk, hm, hz⟩
  · rw [rowR, hz]
    rcases he with rfl | rfl | rfl <;> simp
  · rw [rowR, hz, if_pos rfl]
    exact Nat.le_trans (rowGo_len _ _ _) (by simpa using hm)
theorem rowR_len (l : List UInt8) (a : Int) : (rowR l a).1.length ≤ 140737488351236 := Nat.le_trans (rowR_le l a) (by decide)
/-- what 'PutRow' answers -/
def putRowR (ls : List (List UInt8)) : List UInt8 × Int := if ls.length ≤ 1024 ∧ fits ls = true then (rw' ls, 0) else ([], 2)
/-- what 'PutBytes' answers -/
def putBytesR (l : List UInt8) : List UInt8 × Int := if l.length ≤ 65536 then (tx l, 0) else ([], 2)
/-- a row's bytes up to a text -/
def rwTo (ls : List (List UInt8)) (k : Nat) : List UInt8 := be 4 ls.length ++ (ls.take k).flatMap tx
theorem rwTo_zero (ls : List (List UInt8)) : rwTo ls 0 = be 4 ls.length := by simp [rwTo]
theorem rwTo_all (ls : List (List UInt8)) : rwTo ls ls.length = rw' ls := by simp [rwTo, rw']
theorem rwTo_succ (ls : List (List UInt8)) (k : Nat) (h : k < ls.length) : rwTo ls (k + 1) = rwTo ls k ++ tx ls[k] := by
  rw [rwTo, List.take_succ_eq_append_getElem h, List.flatMap_append]; simp [rwTo]
theorem rwTo_le (ls : List (List UInt8)) : ∀ k, k ≤ ls.length → (∀ i, (h : i < ls.length) → i < k → ls[i].length ≤ 65536) → (rwTo ls k).length ≤ 4 + 65540 * k
  | 0, _, _ => by simp [rwTo, be_length]
  | k + 1, hk, h => by
    rw [rwTo_succ ls k (by omega), List.length_append, tx_length]
    have h1 := rwTo_le ls k (by omega) (fun i hi hlt => h i hi (by omega))
    have h2 := h k (by omega) (by omega)
    omega
theorem fits_of (ls : List (List UInt8)) (h : ∀ i, (h : i < ls.length) → ls[i].length ≤ 65536) : fits ls = true := by
  rw [fits, List.all_eq_true]
  intro s hs
  obtain ⟨i, hi, rfl⟩ := List.mem_iff_getElem.1 hs
  simpa using h i hi
theorem fits_at {ls : List (List UInt8)} (h : fits ls = true) (i : Nat) (hi : i < ls.length) : ls[i].length ≤ 65536 := by
  rw [fits, List.all_eq_true] at h
  simpa using h ls[i] (List.getElem_mem hi)
theorem putRowR_no {ls : List (List UInt8)} (i : Nat) (hi : i < ls.length) (h : 65536 < ls[i].length) : putRowR ls = ([], 2) := by
  rw [putRowR, if_neg]
  intro hh
  have := fits_at hh.2 i hi
  omega
theorem putRowR_ok {ls : List (List UInt8)} (hl : ls.length ≤ 1024) (h : ∀ i, (h : i < ls.length) → ls[i].length ≤ 65536) : putRowR ls = (rw' ls, 0) := by
  rw [putRowR, if_pos ⟨hl, fits_of ls h⟩]
theorem putRowR_many {ls : List (List UInt8)} (hl : 1024 < ls.length) : putRowR ls = ([], 2) := by
  rw [putRowR, if_neg (by omega)]
theorem wrap_of (n : Int) (h1 : -9223372036854775808 ≤ n) (h2 : n ≤ 9223372036854775807) : IntKind.i64.wrap n = n := by
  rw [wrap_is]; simp only [wrap64]; omega
theorem or_add (p x : Nat) (q : Nat) (hx : x < 2 ^ p) (hb : 2 ^ p * q + x < 4611686018427387904) : bits .or .i64 ((2 ^ p * q : Nat) : Int) (x : Int) = ((2 ^ p * q + x : Nat) : Int) := by
  show IntKind.i64.wrap (((BitVec.ofInt 64 ((2 ^ p * q : Nat) : Int) ||| BitVec.ofInt 64 (x : Int)).toNat : Nat) : Int) = _
  have h1 : (((2 ^ p * q : Nat) : Int) % ((2 ^ 64 : Nat) : Int)).toNat = 2 ^ p * q := by
    generalize 2 ^ p * q = m at hb
    omega
  have h2 : ((x : Int) % ((2 ^ 64 : Nat) : Int)).toNat = x := by omega
  rw [BitVec.toNat_or, BitVec.toNat_ofInt, BitVec.toNat_ofInt, h1, h2, ← Nat.two_pow_add_eq_or_of_lt hx]
  generalize 2 ^ p * q + x = m at hb
  exact wrap_of _ (by omega) (by omega)
end Go.Cov


/-! plain laws of 'wire': order of bytes; what stands behind changes nothing -/
namespace Go.Cov
open Go.RowKit
theorem two_pow8 (i : Nat) : (2 : Nat) ^ (8 * i) = 256 ^ i := by rw [Nat.pow_mul]
theorem bt_nat (k i : Nat) : (bt (k : Int) i).toNat = k / 256 ^ i % 256 := by
  have h := bt_int (k : Int) i
  have e : ((2 : Int) ^ (8 * i)) = ((256 ^ i : Nat) : Int) := by rw [← two_pow8]; simp
  rw [e] at h
  omega
theorem be_less (k m : Nat) : ∀ s, Op.bytesLess (be s k) (be s m) = decide (k % 256 ^ s < m % 256 ^ s)
  | 0 => by simp [be, Op.bytesLess, Nat.mod_one]
  | s + 1 => by
    rw [be, be, Op.bytesLess, be_less k m s]
    have hk := Nat.mod_mul (x := k) (a := 256 ^ s) (b := 256)
    have hm := Nat.mod_mul (x := m) (a := 256 ^ s) (b := 256)
    rw [Nat.pow_succ, hk, hm]
    have h1 : k % 256 ^ s < 256 ^ s := Nat.mod_lt _ (Nat.pow_pos (by decide))
    have h2 : m % 256 ^ s < 256 ^ s := Nat.mod_lt _ (Nat.pow_pos (by decide))
    have e1 := bt_nat k s
    have e2 := bt_nat m s
    have l1 : (bt (k : Int) s < bt (m : Int) s) ↔ k / 256 ^ s % 256 < m / 256 ^ s % 256 := by rw [UInt8.lt_iff_toNat_lt, e1, e2]
    have l2 : (bt (k : Int) s == bt (m : Int) s) = decide (k / 256 ^ s % 256 = m / 256 ^ s % 256) := by
      rw [Bool.eq_iff_iff, beq_iff_eq, decide_eq_true_iff, ← UInt8.toNat_inj, e1, e2]
    rw [l2]
    generalize k / 256 ^ s % 256 = p at l1 l2 ⊢
    generalize m / 256 ^ s % 256 = q at l1 l2 ⊢
    generalize k % 256 ^ s = x at h1 ⊢
    generalize m % 256 ^ s = y at h2 ⊢
    generalize hM : 256 ^ s = M at h1 h2 ⊢
    rcases Nat.lt_trichotomy p q with h | h | h
    · have h3 : M * p + M ≤ M * q := by rw [← Nat.mul_succ]; exact Nat.mul_le_mul_left _ h
      have h4 : x + M * p < y + M * q := by omega
      simp [l1, h, h4]
    · subst h
      simp [l1]
    · have h3 : M * q + M ≤ M * p := by rw [← Nat.mul_succ]; exact Nat.mul_le_mul_left _ h
      have h4 : ¬ x + M * p < y + M * q := by omega
      have h5 : ¬ p < q := by omega
      have h6 : ¬ p = q := by omega
      simp [l1, h4, h5, h6]
theorem be8_less (a b : Int) (ha : 0 ≤ a) (hb : 0 ≤ b) (ha2 : a < 9223372036854775808) (hb2 : b < 9223372036854775808) : Op.bytesLess (be 8 a) (be 8 b) = decide (a < b) := by
  obtain ⟨k, rfl⟩ : ∃ k : Nat, a = k := ⟨a.toNat, by omega⟩
  obtain ⟨m, rfl⟩ : ∃ m : Nat, b = m := ⟨b.toNat, by omega⟩
  rw [be_less]
  have e : (256 : Nat) ^ 8 = 18446744073709551616 := by decide
  rw [e, Nat.mod_eq_of_lt (by omega), Nat.mod_eq_of_lt (by omega)]
  simp
theorem take_drop_app (x z : List UInt8) (k s : Nat) (h : k + s ≤ x.length) : ((x ++ z).drop k).take s = (x.drop k).take s := by
  rw [List.drop_append_of_le_length (by omega), List.take_append_of_le_length (by simp; omega)]
theorem getR_app {x z : List UInt8} {a : Int} {s : Nat} (h : (getR x a s).2.2 = 0) : getR (x ++ z) a s = getR x a s := by
  rcases getR_cases x a s with ⟨_, h1⟩ | ⟨_, h1⟩ | ⟨k, rfl, hk, h1⟩
  · rw [h1] at h; cases h
  · rw [h1] at h; cases h
  · rw [h1, getR, if_neg (by rw [List.length_append]; omega), if_neg (by rw [List.length_append]; omega)]
    rw [show ((k : Int)).toNat = k by omega, take_drop_app x z k s hk]
theorem sizeR_app {x z : List UInt8} {a : Int} {m : Nat} (h : (sizeR x a m).2.2 = 0) : sizeR (x ++ z) a m = sizeR x a m := by
  unfold sizeR at *
  have h0 : (getR x a 4).2.2 = 0 := by
    unfold sizeOf' at h
    split at h
    · cases h
    · exact h
  rw [getR_app h0]
theorem bytesR_app {x z : List UInt8} {a : Int} (h : (bytesR x a).2.2 = 0) : bytesR (x ++ z) a = bytesR x a := by
  rcases bytesR_cases x a with ⟨e, he, h1⟩ | ⟨k, n, rfl, hn, hn2, hk, hz, h1⟩
  · rw [h1] at h; rcases he with rfl | rfl | rfl <;> cases h
  · rw [h1, bytesR, sizeR_app (by rw [hz]), hz, if_pos rfl, if_neg (by rw [List.length_append]; dsimp only; omega)]
    rw [show ((k : Int) + 4).toNat = k + 4 by omega, show ((n : Int)).toNat = n by omega, take_drop_app x z (k + 4) n hk]
theorem preRow_ok_of {acc : List (List UInt8)} {r : List (List UInt8) × Int × Int} (h : (preRow acc r).2.2 = 0) : r.2.2 = 0 := by
  unfold preRow at h
  split at h
  · assumption
  · exact h
theorem rowGo_app {x z : List UInt8} : ∀ (n : Nat) (p : Int), (rowGo x n p).2.2 = 0 → rowGo (x ++ z) n p = rowGo x n p
  | 0, _, _ => rfl
  | n + 1, p, h => by
    rw [rowGo] at h ⊢
    rw [rowGo]
    by_cases h0 : (bytesR x p).2.2 = 0
    · rw [if_pos h0] at h ⊢
      rw [bytesR_app h0, if_pos h0, rowGo_app n _ (preRow_ok_of h)]
    · rw [if_neg h0] at h
      exact absurd h h0
theorem rowR_app {x z : List UInt8} {a : Int} (h : (rowR x a).2.2 = 0) : rowR (x ++ z) a = rowR x a := by
  unfold rowR at *
  by_cases h0 : (sizeR x a 1024).2.2 = 0
  · rw [if_pos h0] at h ⊢
    rw [sizeR_app h0, if_pos h0, rowGo_app _ _ h]
  · rw [if_neg h0] at h
    exact absurd h h0
end Go.Cov


/-! plain laws of 'wire': what was written is read; what was read is written; what is cut ends too early -/
namespace Go.Cov
open Go.RowKit
theorem foldl_nat (l : List UInt8) (a : Nat) : l.foldl (fun a c => a * 256 + c.toNat) a = a * 256 ^ l.length + nat l := by
  unfold nat
  suffices h : ∀ (l : List UInt8) (a b : Nat), l.foldl (fun a c => a * 256 + c.toNat) (a + b) = a * 256 ^ l.length + l.foldl (fun a c => a * 256 + c.toNat) b from by simpa using h l a 0
  intro l
  induction l with
  | nil => intro a b; simp
  | cons c l ih =>
    intro a b
    simp only [List.foldl_cons, List.length_cons]
    rw [show (a + b) * 256 + c.toNat = a * 256 + (b * 256 + c.toNat) by omega, ih (a * 256), Nat.pow_succ]
    have : a * 256 * 256 ^ l.length = a * (256 ^ l.length * 256) := by rw [Nat.mul_assoc, Nat.mul_comm 256]
    omega
theorem nat_cons (x : UInt8) (l : List UInt8) : nat (x :: l) = x.toNat * 256 ^ l.length + nat l := by
  have := foldl_nat l x.toNat
  unfold nat at *
  simpa using this
theorem nat_be (k : Nat) : ∀ s, nat (be s (k : Int)) = k % 256 ^ s
  | 0 => by simp [be, nat, Nat.mod_one]
  | s + 1 => by
    rw [be, nat_cons, be_length, nat_be k s, bt_nat, Nat.pow_succ, Nat.mod_mul, Nat.mul_comm (256 ^ s)]
    omega
theorem bt_mod (k i s : Nat) (h : i < s) : bt ((k % 256 ^ s : Nat) : Int) i = bt (k : Int) i := by
  rw [← UInt8.toNat_inj, bt_nat, bt_nat]
  obtain ⟨d, rfl⟩ : ∃ d, s = i + (d + 1) := ⟨s - i - 1, by omega⟩
  rw [Nat.pow_add, Nat.mod_mul_right_div_self, Nat.mod_mod_of_dvd]
  exact ⟨256 ^ d, by rw [Nat.pow_succ, Nat.mul_comm]⟩
theorem be_congr {a b : Int} : ∀ s, (∀ i, i < s → bt a i = bt b i) → be s a = be s b
  | 0, _ => rfl
  | s + 1, h => by rw [be, be, h s (by omega), be_congr s (fun i hi => h i (by omega))]
theorem be_nat : ∀ (l : List UInt8), be l.length (nat l : Int) = l
  | [] => rfl
  | x :: l => by
    have hlt := nat_lt l
    have hp : 0 < 256 ^ l.length := Nat.pow_pos (by decide)
    rw [List.length_cons, be, nat_cons]
    have h1 : bt ((x.toNat * 256 ^ l.length + nat l : Nat) : Int) l.length = x := by
      rw [← UInt8.toNat_inj, bt_nat, Nat.mul_comm, Nat.mul_add_div hp, Nat.div_eq_of_lt hlt, Nat.add_zero]
      exact Nat.mod_eq_of_lt x.toNat_lt
    have h2 : be l.length ((x.toNat * 256 ^ l.length + nat l : Nat) : Int) = be l.length (nat l : Int) := by
      apply be_congr
      intro i hi
      rw [← bt_mod _ i l.length hi, Nat.mul_comm, Nat.mul_add_mod, Nat.mod_eq_of_lt hlt]
    rw [h1, h2, be_nat l]
theorem bt_neg (n : Int) (i : Nat) (hi : i < 8) : bt (n + 18446744073709551616) i = bt n i := by
  rw [← UInt8.toNat_inj]
  have h1 := bt_int n i
  have h2 := bt_int (n + 18446744073709551616) i
  obtain ⟨d, hd⟩ : ∃ d : Nat, (18446744073709551616 : Int) = (2 : Int) ^ (8 * i) * (256 * (d : Int)) := by
    match i, hi with
    | 0, _ => exact ⟨72057594037927936, by decide⟩
    | 1, _ => exact ⟨281474976710656, by decide⟩
    | 2, _ => exact ⟨1099511627776, by decide⟩
    | 3, _ => exact ⟨4294967296, by decide⟩
    | 4, _ => exact ⟨16777216, by decide⟩
    | 5, _ => exact ⟨65536, by decide⟩
    | 6, _ => exact ⟨256, by decide⟩
    | 7, _ => exact ⟨1, by decide⟩
  have hp : (2 : Int) ^ (8 * i) ≠ 0 := Int.pow_ne_zero (by decide)
  have key : (n + 18446744073709551616) / 2 ^ (8 * i) % 256 = n / 2 ^ (8 * i) % 256 := by
    rw [hd, Int.add_mul_ediv_left _ _ hp]
    generalize n / 2 ^ (8 * i) = q
    omega
  rw [key] at h2
  omega
theorem be8_gv (l : List UInt8) (h : l.length = 8) : be 8 (gv l) = l := by
  have hb := be_nat l
  rw [h] at hb
  have hlt := nat_lt l
  rw [h] at hlt
  rw [gv_nat]
  have e : (256 : Nat) ^ 8 = 18446744073709551616 := by decide
  rw [e] at hlt
  generalize nat l = m at hb hlt
  by_cases hm : m < 9223372036854775808
  · have : wrap64 (m : Int) = m := by simp only [wrap64]; omega
    rw [this, hb]
  · have : wrap64 (m : Int) + 18446744073709551616 = m := by simp only [wrap64]; omega
    rw [← hb]
    generalize wrap64 (m : Int) = v at this
    rw [← this]
    exact (be_congr 8 (fun i hi => bt_neg v i hi)).symm
theorem gv_be8 (n : Int) (h1 : -9223372036854775808 ≤ n) (h2 : n < 9223372036854775808) : gv (be 8 n) = n := by
  rw [gv_nat]
  by_cases h : 0 ≤ n
  · obtain ⟨k, rfl⟩ : ∃ k : Nat, n = k := ⟨n.toNat, by omega⟩
    rw [nat_be, Nat.mod_eq_of_lt (by have e : (256 : Nat) ^ 8 = 18446744073709551616 := by decide
                                     omega)]
    simp only [wrap64]
    omega
  · obtain ⟨k, hk⟩ : ∃ k : Nat, n + 18446744073709551616 = k := ⟨(n + 18446744073709551616).toNat, by omega⟩
    have e : be 8 n = be 8 (k : Int) := by rw [← hk]; exact (be_congr 8 (fun i hi => bt_neg n i hi)).symm
    rw [e, nat_be, Nat.mod_eq_of_lt (by have e : (256 : Nat) ^ 8 = 18446744073709551616 := by decide
                                        omega)]
    simp only [wrap64]
    omega
/-! ### what stands at a place -/
theorem drop_pre (pre rest : List UInt8) : (pre ++ rest).drop pre.length = rest := by simp
theorem getR_at (pre m rest : List UInt8) (s : Nat) (hm : m.length = s) : getR (pre ++ (m ++ rest)) (pre.length : Int) s = (gv m, (pre.length : Int) + s, 0) := by
  rw [getR, if_neg (by simp only [List.length_append]; omega), if_neg (by simp only [List.length_append]; omega)]
  rw [show ((pre.length : Int)).toNat = pre.length by omega, drop_pre, List.take_append_of_le_length (by omega), List.take_of_length_le (by omega)]
theorem num_back (pre rest : List UInt8) (n : Int) (h1 : -9223372036854775808 ≤ n) (h2 : n < 9223372036854775808) : getR (pre ++ (be 8 n ++ rest)) (pre.length : Int) 8 = (n, (pre.length : Int) + 8, 0) := by
  rw [getR_at pre (be 8 n) rest 8 (be_length 8 n), gv_be8 n h1 h2]; rfl
theorem bool_back (pre rest : List UInt8) (b : Bool) : boolR (pre ++ ([tb b] ++ rest)) (pre.length : Int) = (b, (pre.length : Int) + 1, 0) := by
  rw [boolR, getR_at pre [tb b] rest 1 rfl, gv_one]
  cases b <;> rfl
theorem size_back (pre rest : List UInt8) (n : Nat) (most : Nat) (h : n ≤ most) (h32 : n < 4294967296) : sizeR (pre ++ (be 4 n ++ rest)) (pre.length : Int) most = ((n : Int), (pre.length : Int) + 4, 0) := by
  have hg : gv (be 4 (n : Int)) = n := by
    rw [(gv4 _ (by rw [be_length]; omega)).1, nat_be, Nat.mod_eq_of_lt (by have e : (256 : Nat) ^ 4 = 4294967296 := by decide
                                                                           omega)]
  rw [sizeR, getR_at pre (be 4 n) rest 4 (be_length 4 n), hg, sizeOf', if_neg (by dsimp only; omega)]
  rfl
theorem bytes_back (pre rest t : List UInt8) (h : t.length ≤ 65536) : bytesR (pre ++ (tx t ++ rest)) (pre.length : Int) = (t, (pre.length : Int) + (tx t).length, 0) := by
  have hs := size_back pre (t ++ rest) t.length 65536 h (by omega)
  rw [tx, List.append_assoc]
  rw [bytesR, hs, if_pos rfl, if_neg (by simp only [List.length_append, be_length]; omega)]
  have e1 : ((pre.length : Int) + 4).toNat = (pre ++ be 4 t.length).length := by rw [List.length_append, be_length]; omega
  have e2 : pre ++ (be 4 t.length ++ (t ++ rest)) = (pre ++ be 4 t.length) ++ (t ++ rest) := by simp
  dsimp only
  rw [e1, e2, drop_pre, show ((t.length : Int)).toNat = t.length by omega, List.take_append_of_le_length (Nat.le_refl _), List.take_of_length_le (Nat.le_refl _), List.length_append, be_length]
  congr 2
  omega
theorem rowGo_back (rest : List UInt8) : ∀ (ls : List (List UInt8)) (pre : List UInt8), (∀ s ∈ ls, s.length ≤ 65536) → rowGo (pre ++ (ls.flatMap tx ++ rest)) ls.length (pre.length : Int) = (ls, (pre.length : Int) + (ls.flatMap tx).length, 0)
  | [], pre, _ => by simp [rowGo]
  | t :: ls, pre, h => by
    have hb := bytes_back pre (ls.flatMap tx ++ rest) t (h t (List.mem_cons_self ..))
    have hr := rowGo_back rest ls (pre ++ tx t) (fun s hs => h s (List.mem_cons_of_mem _ hs))
    rw [List.flatMap_cons, List.length_cons, rowGo, List.append_assoc, hb, if_pos rfl]
    dsimp only
    rw [show pre ++ (tx t ++ (ls.flatMap tx ++ rest)) = pre ++ tx t ++ (ls.flatMap tx ++ rest) by simp, show (pre.length : Int) + ((tx t).length : Int) = ((pre ++ tx t).length : Int) by rw [List.length_append]; omega, hr, preRow_ok]
    rw [List.length_append, List.length_append]
    congr 2
    omega
theorem fits_mem {ls : List (List UInt8)} (h : fits ls = true) : ∀ s ∈ ls, s.length ≤ 65536 := by
  intro s hs
  rw [fits, List.all_eq_true] at h
  simpa using h s hs
theorem row_back (pre rest : List UInt8) (ls : List (List UInt8)) (h : ls.length ≤ 1024) (hf : fits ls = true) : rowR (pre ++ (rw' ls ++ rest)) (pre.length : Int) = (ls, (pre.length : Int) + (rw' ls).length, 0) := by
  have hs := size_back pre (ls.flatMap tx ++ rest) ls.length 1024 h (by omega)
  have hr := rowGo_back rest ls (pre ++ be 4 ls.length) (fits_mem hf)
  rw [rw', List.append_assoc, rowR, hs, if_pos rfl]
  dsimp only
  rw [show ((ls.length : Int)).toNat = ls.length by omega, show pre ++ (be 4 ls.length ++ (ls.flatMap tx ++ rest)) = (pre ++ be 4 ls.length) ++ (ls.flatMap tx ++ rest) by simp, show (pre.length : Int) + 4 = ((pre ++ be 4 ls.length).length : Int) by rw [List.length_append, be_length]; omega, hr]
  simp only [List.length_append, be_length]
  congr 2
  omega
/-! ### what is read stands there -/
theorem num_kept {l : List UInt8} {k : Nat} {n p : Int} (h : getR l k 8 = (n, p, 0)) : p = (k : Int) + 8 ∧ ∃ rest, l.drop k = be 8 n ++ rest ∧ k + 8 ≤ l.length := by
  rcases getR_cases l k 8 with ⟨_, h1⟩ | ⟨_, h1⟩ | ⟨j, hj, hl, h1⟩
  · rw [h1] at h; cases h
  · rw [h1] at h; cases h
  · obtain rfl : k = j := by omega
    rw [h1] at h
    injection h with h2 h3
    injection h3 with h3 _
    refine ⟨h3.symm, (l.drop k).drop 8, ?_, hl⟩
    rw [← h2, be8_gv _ (by simp; omega), List.take_append_drop]
theorem bool_kept {l : List UInt8} {k : Nat} {b : Bool} {p : Int} (h : boolR l k = (b, p, 0)) : p = (k : Int) + 1 ∧ ∃ rest, l.drop k = [tb b] ++ rest ∧ k + 1 ≤ l.length := by
  unfold boolR at h
  rcases getR_cases l k 1 with ⟨_, h1⟩ | ⟨_, h1⟩ | ⟨j, hj, hl, h1⟩
  · rw [h1] at h; cases h
  · rw [h1] at h; cases h
  · obtain rfl : k = j := by omega
    rw [h1] at h
    obtain ⟨x, r, hd⟩ : ∃ x r, l.drop k = x :: r := by
      cases hd : l.drop k with
      | nil => have := congrArg List.length hd; simp at this; omega
      | cons x r => exact ⟨x, r, rfl⟩
    rw [hd, show (x :: r).take 1 = [x] from rfl, gv_one] at h
    unfold boolOf at h
    rw [if_pos rfl] at h
    dsimp only at h
    split at h
    · cases h
    · injection h with h2 h3
      injection h3 with h3 _
      refine ⟨h3.symm, r, ?_, hl⟩
      rw [hd]
      congr 1
      rename_i hx
      rw [← UInt8.toNat_inj, ← h2]
      by_cases hx1 : x.toNat = 1
      · rw [hx1]; rfl
      · have : x.toNat = 0 := by omega
        rw [this]; rfl
theorem bytes_kept {l : List UInt8} {k : Nat} {t : List UInt8} {p : Int} (h : bytesR l k = (t, p, 0)) : t.length ≤ 65536 ∧ p = (k : Int) + (tx t).length ∧ k + (tx t).length ≤ l.length ∧ l.drop k = tx t ++ l.drop (k + (tx t).length) := by
  rcases bytesR_cases l k with ⟨e, he, h1⟩ | ⟨j, n, hj, hn, hn2, hl, hz, h1⟩
  · rw [h1] at h; injection h with _ h; injection h with _ h; rcases he with rfl | rfl | rfl <;> cases h
  · obtain rfl : k = j := by omega
    rw [h1] at h
    injection h with h2 h3
    injection h3 with h3 _
    have hlt : t.length = n := by rw [← h2]; simp; omega
    have hb4 : be 4 (n : Int) = (l.drop k).take 4 := by
      have := be_nat ((l.drop k).take 4)
      rw [show ((l.drop k).take 4).length = 4 by simp; omega, ← hn] at this
      exact this
    refine ⟨by omega, by rw [tx_length, hlt, ← h3]; omega, by rw [tx_length, hlt]; omega, ?_⟩
    rw [tx_length, hlt, tx, hlt, hb4, ← h2]
    rw [show l.drop (k + (4 + n)) = ((l.drop k).drop 4).drop n by rw [List.drop_drop, List.drop_drop], show l.drop (k + 4) = (l.drop k).drop 4 by rw [List.drop_drop], List.append_assoc, List.take_append_drop, List.take_append_drop]
theorem preRow_inv {acc : List (List UInt8)} {r : List (List UInt8) × Int × Int} {ls : List (List UInt8)} {p : Int} (h : preRow acc r = (ls, p, 0)) : ∃ r1, r = (r1, p, 0) ∧ ls = acc ++ r1 := by
  obtain ⟨r1, r2, r3⟩ := r
  unfold preRow at h
  dsimp only at h
  split at h
  · rename_i h0
    injection h with h1 h2
    injection h2 with h2 h3
    exact ⟨r1, by rw [h2, h0], h1.symm⟩
  · injection h with h1 h2
    injection h2 with h2 h3
    contradiction
theorem rowGo_kept {l : List UInt8} : ∀ (n k : Nat) (ls : List (List UInt8)) (p : Int), k ≤ l.length → rowGo l n k = (ls, p, 0) → ls.length = n ∧ (∀ s ∈ ls, s.length ≤ 65536) ∧ p = (k : Int) + (ls.flatMap tx).length ∧ k + (ls.flatMap tx).length ≤ l.length ∧ l.drop k = ls.flatMap tx ++ l.drop (k + (ls.flatMap tx).length)
  | 0, k, ls, p, hk, h => by
    rw [rowGo] at h
    injection h with h1 h2
    injection h2 with h2 _
    subst h1 h2
    exact ⟨rfl, by simp, by simp, by simpa using hk, by simp⟩
  | n + 1, k, ls, p, hk, h => by
    rw [rowGo] at h
    by_cases h0 : (bytesR l k).2.2 = 0
    · rw [if_pos h0] at h
      obtain ⟨r1, hr, rfl⟩ := preRow_inv h
      obtain ⟨t, q, e, hb⟩ : ∃ t q e, bytesR l k = (t, q, e) := ⟨_, _, _, rfl⟩
      rw [hb] at h0 hr
      dsimp only at h0 hr
      subst h0
      obtain ⟨b1, b2, b3, b4⟩ := bytes_kept hb
      rw [b2, show (k : Int) + ((tx t).length : Int) = ((k + (tx t).length : Nat) : Int) by omega] at hr
      obtain ⟨c1, c2, c3, c4, c5⟩ := rowGo_kept n (k + (tx t).length) r1 p b3 hr
      rw [hb]
      refine ⟨by simp [c1], ?_, ?_, ?_, ?_⟩
      · intro s hs
        rcases List.mem_append.1 hs with hs | hs
        · rw [List.mem_singleton] at hs; subst hs; exact b1
        · exact c2 s hs
      · rw [c3]; simp only [List.flatMap_append, List.flatMap_cons, List.flatMap_nil, List.append_nil, List.length_append]; omega
      · simp only [List.flatMap_append, List.flatMap_cons, List.flatMap_nil, List.append_nil, List.length_append]; omega
      · simp only [List.flatMap_append, List.flatMap_cons, List.flatMap_nil, List.append_nil, List.length_append]
        rw [b4, c5, List.append_assoc]
        congr 3
        omega
    · rw [if_neg h0] at h
      injection h with h1 h2
      injection h2 with h2 h3
      exact absurd h3 h0
theorem row_kept {l : List UInt8} {ls : List (List UInt8)} {k : Nat} {p : Int} (h : rowR l k = (ls, p, 0)) : ls.length ≤ 1024 ∧ fits ls = true ∧ p = (k : Int) + (rw' ls).length ∧ k + (rw' ls).length ≤ l.length ∧ l.drop k = rw' ls ++ l.drop (k + (rw' ls).length) := by
  unfold rowR at h
  rcases sizeR_cases l k 1024 with ⟨e, he, hz⟩ | ⟨j, hj, hl, hm, hz⟩
  · rw [hz] at h
    rw [if_neg (by rcases he with rfl | rfl | rfl <;> decide)] at h
    injection h with h1 h2
    injection h2 with h2 h3
    rcases he with rfl | rfl | rfl <;> cases h3
  · obtain rfl : k = j := by omega
    rw [hz, if_pos rfl] at h
    dsimp only at h
    rw [show (k : Int) + 4 = ((k + 4 : Nat) : Int) by omega] at h
    have hb4 : be 4 ((nat ((l.drop k).take 4) : Nat) : Int) = (l.drop k).take 4 := by
      have := be_nat ((l.drop k).take 4)
      rw [show ((l.drop k).take 4).length = 4 by simp; omega] at this
      exact this
    generalize nat ((l.drop k).take 4) = n at hm h hb4
    rw [show ((n : Int)).toNat = n by omega] at h
    obtain ⟨c1, c2, c3, c4, c5⟩ := rowGo_kept n (k + 4) ls p hl h
    have hlen : (rw' ls).length = 4 + (ls.flatMap tx).length := by rw [rw', List.length_append, be_length]
    refine ⟨by omega, by rw [fits, List.all_eq_true]; intro s hs; simpa using c2 s hs, by rw [c3, hlen]; omega, by rw [hlen]; omega, ?_⟩
    rw [hlen, rw', c1, hb4, show k + (4 + (ls.flatMap tx).length) = k + 4 + (ls.flatMap tx).length by omega, List.append_assoc, ← c5, show l.drop (k + 4) = (l.drop k).drop 4 by rw [List.drop_drop], List.take_append_drop]
theorem rowR_err {l : List UInt8} {a : Int} (h : (rowR l a).2.2 ≠ 0) : (rowR l a).1 = [] ∧ (rowR l a).2.1 = 0 := by
  unfold rowR at *
  by_cases h0 : (sizeR l a 1024).2.2 = 0
  · rw [if_pos h0] at h ⊢
    generalize (sizeR l a 1024).1.toNat = n at h ⊢
    generalize (sizeR l a 1024).2.1 = p at h ⊢
    clear h0
    cases n with
    | zero => exact absurd rfl h
    | succ n =>
      rw [rowGo] at h ⊢
      by_cases h1 : (bytesR l p).2.2 = 0
      · rw [if_pos h1] at h ⊢
        unfold preRow at *
        split at h
        · exact absurd rfl h
        · rename_i h2
          rw [if_neg h2]; exact ⟨rfl, rfl⟩
      · rw [if_neg h1]; exact ⟨rfl, rfl⟩
  · rw [if_neg h0]; exact ⟨rfl, rfl⟩
end Go.Cov


/-! plain laws of 'wire': what is cut ends too early -/
namespace Go.Cov
open Go.RowKit
theorem getR_end (pre z : List UInt8) (s : Nat) (h : z.length < s) : getR (pre ++ z) (pre.length : Int) s = (0, 0, 11) := by
  rw [getR, if_neg (by simp only [List.length_append]; omega), if_pos (by simp only [List.length_append]; omega)]
theorem bytes_cut (pre t : List UInt8) (c : Nat) (ht : t.length ≤ 65536) (hc : c < (tx t).length) : bytesR (pre ++ (tx t).take c) (pre.length : Int) = ([], 0, 11) := by
  rw [tx_length] at hc
  by_cases h4 : c < 4
  · have hs : sizeR (pre ++ (tx t).take c) (pre.length : Int) 65536 = (0, 0, 11) := by
      rw [sizeR, getR_end pre _ 4 (by rw [List.length_take, tx_length]; omega)]; rfl
    rw [bytesR, hs]; rfl
  · have e : (tx t).take c = be 4 t.length ++ t.take (c - 4) := by
      rw [tx, List.take_append, be_length, List.take_of_length_le (by rw [be_length]; omega)]
    have hs := size_back pre (t.take (c - 4)) t.length 65536 ht (by omega)
    rw [e, bytesR, hs, if_pos rfl, if_pos (by simp only [List.length_append, be_length, List.length_take]; omega)]
theorem rowGo_cut : ∀ (ls : List (List UInt8)) (pre : List UInt8) (c : Nat), (∀ s ∈ ls, s.length ≤ 65536) → c < (ls.flatMap tx).length → rowGo (pre ++ (ls.flatMap tx).take c) ls.length (pre.length : Int) = ([], 0, 11)
  | [], pre, c, _, hc => by simp at hc
  | t :: ls, pre, c, h, hc => by
    rw [List.flatMap_cons] at hc ⊢
    rw [List.length_cons, rowGo, List.take_append]
    by_cases h1 : c < (tx t).length
    · rw [show c - (tx t).length = 0 by omega, List.take_zero, List.append_nil, bytes_cut pre t c (h t (List.mem_cons_self ..)) h1]
      rfl
    · rw [List.take_of_length_le (by omega)]
      rw [bytes_back pre _ t (h t (List.mem_cons_self ..)), if_pos rfl]
      dsimp only
      have hr := rowGo_cut ls (pre ++ tx t) (c - (tx t).length) (fun s hs => h s (List.mem_cons_of_mem _ hs)) (by rw [List.length_append] at hc; omega)
      rw [show pre ++ (tx t ++ (ls.flatMap tx).take (c - (tx t).length)) = pre ++ tx t ++ (ls.flatMap tx).take (c - (tx t).length) by simp, show (pre.length : Int) + ((tx t).length : Int) = ((pre ++ tx t).length : Int) by rw [List.length_append]; omega, hr]
      rfl
theorem row_cut (ls : List (List UInt8)) (c : Nat) (h : ls.length ≤ 1024) (hf : fits ls = true) (hc : c < (rw' ls).length) : rowR ((rw' ls).take c) 0 = ([], 0, 11) := by
  have hlen : (rw' ls).length = 4 + (ls.flatMap tx).length := by rw [rw', List.length_append, be_length]
  by_cases h4 : c < 4
  · have hs : sizeR ((rw' ls).take c) 0 1024 = (0, 0, 11) := by
      have := getR_end [] ((rw' ls).take c) 4 (by rw [List.length_take]; omega)
      rw [sizeR]
      simp only [List.nil_append, List.length_nil] at this
      rw [show (0 : Int) = ((0 : Nat) : Int) from rfl, this]; rfl
    rw [rowR, hs]; rfl
  · have e : (rw' ls).take c = [] ++ (be 4 ls.length ++ (ls.flatMap tx).take (c - 4)) := by
      rw [rw', List.take_append, be_length, List.take_of_length_le (by rw [be_length]; omega)]; rfl
    have hs := size_back [] ((ls.flatMap tx).take (c - 4)) ls.length 1024 h (by omega)
    have hr := rowGo_cut ls (be 4 ls.length) (c - 4) (fits_mem hf) (by omega)
    rw [be_length] at hr
    have hs' : sizeR ([] ++ (be 4 ls.length ++ (ls.flatMap tx).take (c - 4))) 0 1024 = ((ls.length : Int), 4, 0) := hs
    rw [e, rowR, hs', if_pos rfl]
    exact hr
theorem num_cut (n : Int) (c : Nat) (hc : c < 8) : getR ((be 8 n).take c) 0 8 = (0, 0, 11) := by
  have := getR_end [] ((be 8 n).take c) 8 (by rw [List.length_take, be_length]; omega)
  simpa using this
theorem text_cut (t : List UInt8) (c : Nat) (ht : t.length ≤ 65536) (hc : c < (tx t).length) : bytesR ((tx t).take c) 0 = ([], 0, 11) := by
  have := bytes_cut [] t c ht hc
  simpa using this
end Go.Cov


/-! readers that go part by part until the first error, and what their parts' bytes are: plain laws -/
namespace Go.Cov
open Go.RowKit
/-- the next part, if there was no error -/
def nx {α : Type} (f : List UInt8 → Int → α × Int × Int) (d : α) (l : List UInt8) (s : Int × Int) : α × Int × Int := if s.2 = 0 then f l s.1 else (d, s)
/-- a number -/
def numR (l : List UInt8) (a : Int) : Int × Int × Int := getR l a 8
/-- may it be an int? -/
def I64 (n : Int) : Prop := -9223372036854775808 ≤ n ∧ n < 9223372036854775808
/-- what is put is got, what is got is put, what is cut is none -/
structure Cod {α : Type} (ok : α → Prop) (put : α → List UInt8) (get : List UInt8 → Int × Int → α × Int × Int) : Prop where
  err : ∀ l s, s.2 ≠ 0 → (get l s).2 = s
  back : ∀ pre a rest, ok a → get (pre ++ (put a ++ rest)) ((pre.length : Int), 0) = (a, (pre.length : Int) + (put a).length, 0)
  kept : ∀ l (k : Nat) a p, k ≤ l.length → get l ((k : Int), 0) = (a, p, 0) → ok a ∧ p = (k : Int) + (put a).length ∧ k + (put a).length ≤ l.length ∧ l.drop k = put a ++ l.drop (k + (put a).length)
  cut : ∀ pre a c, ok a → c < (put a).length → (get (pre ++ (put a).take c) ((pre.length : Int), 0)).2.2 = 11
theorem nx_err {α : Type} (f : List UInt8 → Int → α × Int × Int) (d : α) (l : List UInt8) (s : Int × Int) (h : s.2 ≠ 0) : (nx f d l s).2 = s := by rw [nx, if_neg h]
theorem nx_ok {α : Type} (f : List UInt8 → Int → α × Int × Int) (d : α) (l : List UInt8) (a : Int) : nx f d l (a, 0) = f l a := by rw [nx, if_pos rfl]
theorem drop_of {l r z : List UInt8} {k : Nat} (h : l.drop k = r ++ z) : l.drop k = r ++ l.drop (k + r.length) := by
  have : l.drop (k + r.length) = z := by rw [← List.drop_drop, h]; simp
  rw [this]; exact h
theorem cod_num : Cod I64 (be 8) (nx numR 0) where
  err := nx_err _ _
  back := fun pre a rest h => by rw [nx_ok, numR, num_back pre rest a h.1 h.2, be_length]; rfl
  kept := fun l k a p hk h => by
    rw [nx_ok, numR] at h
    obtain ⟨h1, r, h2, h3⟩ := num_kept h
    refine ⟨?_, by rw [be_length]; exact h1, by rw [be_length]; exact h3, drop_of h2⟩
    rcases getR_cases l k 8 with ⟨_, e⟩ | ⟨_, e⟩ | ⟨j, _, _, e⟩
    · rw [e] at h; cases h
    · rw [e] at h; cases h
    · rw [e] at h; injection h with h _
      rw [← h, gv_nat]; unfold I64 wrap64; omega
  cut := fun pre a c h hc => by
    rw [nx_ok, numR, getR_end pre _ 8 (by rw [List.length_take, be_length]; rw [be_length] at hc; omega)]
theorem cod_bool : Cod (fun _ => True) (fun b => [tb b]) (nx boolR false) where
  err := nx_err _ _
  back := fun pre a rest _ => by rw [nx_ok, bool_back]; rfl
  kept := fun l k a p hk h => by
    rw [nx_ok] at h
    obtain ⟨h1, r, h2, h3⟩ := bool_kept h
    exact ⟨trivial, h1, h3, drop_of h2⟩
  cut := fun pre a c _ hc => by
    have hc : c < 1 := hc
    rw [nx_ok, boolR, getR_end pre _ 1 (by rw [List.length_take]; omega)]; rfl
theorem cod_text : Cod (fun t => t.length ≤ 65536) tx (nx bytesR []) where
  err := nx_err _ _
  back := fun pre a rest h => by rw [nx_ok, bytes_back pre rest a h]
  kept := fun l k a p hk h => by rw [nx_ok] at h; exact bytes_kept h
  cut := fun pre a c h hc => by rw [nx_ok, bytes_cut pre a c h hc]
/-- one behind the other -/
def sq {α β : Type} (g : List UInt8 → Int × Int → α × Int × Int) (h : List UInt8 → Int × Int → β × Int × Int) (l : List UInt8) (s : Int × Int) : (α × β) × Int × Int := (((g l s).1, (h l (g l s).2).1), (h l (g l s).2).2)
section
variable {α β : Type} {ok : α → Prop} {put : α → List UInt8} {get : List UInt8 → Int × Int → α × Int × Int} {ok' : β → Prop} {put' : β → List UInt8} {get' : List UInt8 → Int × Int → β × Int × Int}
theorem Cod.seq (A : Cod ok put get) (B : Cod ok' put' get') : Cod (fun x => ok x.1 ∧ ok' x.2) (fun x => put x.1 ++ put' x.2) (sq get get') where
  err := fun l s h => by
    have h1 := A.err l s h
    show (get' l (get l s).2).2 = s
    rw [h1]; exact B.err l s h
  back := fun pre a rest h => by
    have h1 := A.back pre a.1 (put' a.2 ++ rest) h.1
    have h2 := B.back (pre ++ put a.1) a.2 rest h.2
    unfold sq
    rw [List.append_assoc, h1]
    dsimp only
    rw [List.append_assoc] at h2
    rw [List.length_append, Int.natCast_add] at h2
    rw [h2, List.length_append]
    simp only [Int.natCast_add, Int.add_assoc]
  kept := fun l k a p hk h => by
    unfold sq at h
    obtain ⟨a1, s1, h1⟩ : ∃ a1 s1, get l ((k : Int), 0) = (a1, s1) := ⟨_, _, rfl⟩
    rw [h1] at h
    dsimp only at h
    injection h with ha hs
    have hz : s1.2 = 0 := by
      by_cases hz : s1.2 = 0
      · exact hz
      · rw [B.err l s1 hz] at hs; rw [hs]
    obtain ⟨p1, e1⟩ := s1
    have hz : e1 = 0 := hz
    subst hz
    obtain ⟨k1, k2, k3, k4⟩ := A.kept l k a1 p1 hk h1
    have k2' : p1 = ((k + (put a1).length : Nat) : Int) := by omega
    rw [k2'] at hs ha
    obtain ⟨b1, s2, h2⟩ : ∃ b1 s2, get' l (((k + (put a1).length : Nat) : Int), 0) = (b1, s2) := ⟨_, _, rfl⟩
    rw [h2] at hs ha
    dsimp only at hs ha
    subst hs ha
    obtain ⟨m1, m2, m3, m4⟩ := B.kept l _ b1 p k3 h2
    dsimp only
    refine ⟨⟨k1, m1⟩, ?_, ?_, ?_⟩
    · rw [m2, List.length_append]; omega
    · rw [List.length_append]; omega
    · rw [k4, m4, List.length_append, List.append_assoc, Nat.add_assoc]
  cut := fun pre a c h hc => by
    unfold sq
    dsimp only
    rw [List.length_append] at hc
    by_cases h1 : c < (put a.1).length
    · rw [List.take_append_of_le_length (by omega)]
      have h2 := A.cut pre a.1 c h.1 h1
      rw [B.err _ _ (by rw [h2]; decide)]; exact h2
    · rw [List.take_append, List.take_of_length_le (by omega)]
      rw [A.back pre a.1 _ h.1]
      have h2 := B.cut (pre ++ put a.1) a.2 (c - (put a.1).length) h.2 (by omega)
      rw [List.append_assoc, List.length_append, Int.natCast_add] at h2
      exact h2
/-- the same under another name -/
theorem Cod.iso (A : Cod ok put get) (f : α → β) (g : β → α) (hfg : ∀ b, f (g b) = b) (hgf : ∀ a, g (f a) = a) : Cod (fun b => ok (g b)) (fun b => put (g b)) (fun l s => (f (get l s).1, (get l s).2)) where
  err := fun l s h => A.err l s h
  back := fun pre a rest h => by rw [A.back pre (g a) rest h, hfg]
  kept := fun l k a p hk h => by
    injection h with h1 h2
    refine A.kept l k (g a) p hk ?_
    rw [← h1, hgf, ← h2]
  cut := fun pre a c h hc => A.cut pre (g a) c h hc
/-- so many of them -/
def getL (g : List UInt8 → Int × Int → α × Int × Int) : Nat → List UInt8 → Int × Int → List α × Int × Int
  | 0, _, s => ([], s)
  | n + 1, l, s => if s.2 = 0 then ((g l s).1 :: (getL g n l (g l s).2).1, (getL g n l (g l s).2).2) else ([], s)
theorem getL_err (g : List UInt8 → Int × Int → α × Int × Int) (n : Nat) (l : List UInt8) (s : Int × Int) (h : s.2 ≠ 0) : getL g n l s = ([], s) := by
  cases n with
  | zero => rfl
  | succ n => rw [getL, if_neg h]
theorem getL_ok (g : List UInt8 → Int × Int → α × Int × Int) (n : Nat) (l : List UInt8) (s : Int × Int) (h : s.2 = 0) : getL g (n + 1) l s = ((g l s).1 :: (getL g n l (g l s).2).1, (getL g n l (g l s).2).2) := by
  rw [getL, if_pos h]
theorem Cod.many (A : Cod ok put get) : ∀ n, Cod (fun xs => xs.length = n ∧ ∀ x ∈ xs, ok x) (fun xs => xs.flatMap put) (getL get n)
  | 0 => {
    err := fun l s _ => rfl
    back := fun pre a rest h => by
      obtain rfl := List.eq_nil_of_length_eq_zero h.1
      simp [getL]
    kept := fun l k a p hk h => by
      rw [getL] at h
      injection h with h1 h2
      injection h2 with h2 _
      subst h1 h2
      simp
      exact hk
    cut := fun pre a c h hc => by
      obtain rfl := List.eq_nil_of_length_eq_zero h.1
      simp at hc }
  | n + 1 => by
    have B := A.seq (A.many n)
    refine ⟨fun l s h => by rw [getL_err _ _ _ _ h], fun pre a rest h => ?_, fun l k a p hk h => ?_, fun pre a c h hc => ?_⟩
    · obtain ⟨h1, h2⟩ := h
      match a, h1 with
      | x :: xs, h1 =>
        have hB := B.back pre (x, xs) rest ⟨h2 _ (List.mem_cons_self ..), by simpa using h1, fun y hy => h2 y (List.mem_cons_of_mem _ hy)⟩
        rw [getL_ok _ _ _ _ rfl]
        unfold sq at hB
        rw [List.flatMap_cons]
        dsimp only at hB ⊢
        injection hB with e1 e2
        injection e1 with e1 e3
        rw [e1, e2, e3]
    · rw [getL_ok _ _ _ _ rfl] at h
      injection h with h1 h2
      obtain ⟨q, hq⟩ : ∃ q, q = (getL get n l (get l ((k : Int), 0)).2).1 := ⟨_, rfl⟩
      have hB := B.kept l k ((get l ((k : Int), 0)).1, q) p hk (by unfold sq; rw [h2, hq])
      dsimp only at hB
      rw [← hq] at h1
      subst h1
      rw [List.flatMap_cons]
      obtain ⟨⟨b1, b2, b3⟩, b4⟩ := hB
      refine ⟨⟨by simp [b2], fun x hx => ?_⟩, b4⟩
      rcases List.mem_cons.1 hx with rfl | hx
      · exact b1
      · exact b3 x hx
    · obtain ⟨h1, h2⟩ := h
      match a, h1 with
      | x :: xs, h1 =>
        rw [getL_ok _ _ _ _ rfl]
        exact B.cut pre (x, xs) c ⟨h2 _ (List.mem_cons_self ..), by simpa using h1, fun y hy => h2 y (List.mem_cons_of_mem _ hy)⟩ hc
/-- an error if there are too many -/
def chk (most er : Int) (r : Int × Int × Int) : Int × Int := if r.2.2 = 0 ∧ (r.1 < 0 ∨ most < r.1) then (r.2.1, er) else r.2
/-- how many, and so many -/
def cnt (most er : Int) (g : List UInt8 → Int × Int → α × Int × Int) (l : List UInt8) (s : Int × Int) : List α × Int × Int := getL g (nx numR 0 l s).1.toNat l (chk most er (nx numR 0 l s))
theorem chk_ok {most er n p : Int} (h : 0 ≤ n ∧ n ≤ most) : chk most er (n, p, 0) = (p, 0) := by
  unfold chk; rw [if_neg]; dsimp only; omega
theorem Cod.count (A : Cod ok put get) (most : Nat) (er : Int) (hm : most < 9223372036854775808) (he : er ≠ 0) : Cod (fun xs => xs.length ≤ most ∧ ∀ x ∈ xs, ok x) (fun xs => be 8 xs.length ++ xs.flatMap put) (cnt most er get) where
  err := fun l s h => by
    unfold cnt
    have e : nx numR 0 l s = (0, s) := by rw [nx, if_neg h]
    rw [e]
    have e2 : chk most er (0, s) = s := by unfold chk; rw [if_neg]; exact fun hh => h hh.1
    rw [e2]; rfl
  back := fun pre a rest h => by
    have hB := (cod_num.seq (A.many a.length)).back pre ((a.length : Int), a) rest ⟨by unfold I64; omega, rfl, h.2⟩
    unfold sq at hB
    dsimp only at hB
    injection hB with e1 e2
    injection e1 with e1 e3
    have e4 := cod_num.back pre (a.length : Int) (a.flatMap put ++ rest) (by unfold I64; omega)
    rw [List.append_assoc] at *
    unfold cnt
    rw [e4] at e2 e3 ⊢
    rw [chk_ok (by omega)]
    dsimp only at e2 e3 ⊢
    rw [Int.toNat_natCast, ← e2]
    exact Prod.ext e3 rfl
  kept := fun l k a p hk h => by
    unfold cnt at h
    obtain ⟨n, s1, h1⟩ : ∃ n s1, nx numR 0 l ((k : Int), 0) = (n, s1) := ⟨_, _, rfl⟩
    rw [h1] at h
    dsimp only at h
    obtain ⟨p1, e1⟩ := s1
    by_cases hz : (chk most er (n, p1, e1)).2 = 0
    · have hb : e1 = 0 ∧ ¬ (n < 0 ∨ (most : Int) < n) := by
        unfold chk at hz
        dsimp only at hz
        split at hz
        · exact absurd hz he
        · rename_i hh
          dsimp only at hz
          exact ⟨hz, fun g => hh ⟨hz, g⟩⟩
      obtain ⟨rfl, hn⟩ := hb
      rw [chk_ok (by omega)] at h
      have hB := (cod_num.seq (A.many n.toNat)).kept l k (n, a) p hk (by unfold sq; rw [h1]; dsimp only; rw [h])
      dsimp only at hB
      obtain ⟨⟨b1, b2, b3⟩, b4⟩ := hB
      have : (a.length : Int) = n := by omega
      rw [this]
      exact ⟨⟨by omega, b3⟩, b4⟩
    · rw [getL_err _ _ _ _ hz] at h
      injection h with _ h
      rw [h] at hz
      exact absurd rfl hz
  cut := fun pre a c h hc => by
    have hB := (cod_num.seq (A.many a.length)).cut pre ((a.length : Int), a) c ⟨by unfold I64; omega, rfl, h.2⟩ hc
    unfold sq at hB
    dsimp only at hB
    unfold cnt
    by_cases h1 : c < (be 8 (a.length : Int)).length
    · rw [List.take_append_of_le_length (by omega)] at hB ⊢
      have h2 := cod_num.cut pre (a.length : Int) c (by unfold I64; omega) h1
      have e2 : ∀ r : Int × Int × Int, r.2.2 = 11 → (chk most er r) = r.2 := fun r hr => by unfold chk; rw [if_neg]; intro hh; rw [hr] at hh; exact absurd hh.1 (by decide)
      rw [e2 _ h2]
      rw [getL_err _ _ _ _ (by rw [h2]; decide)]
      exact h2
    · rw [List.take_append, List.take_of_length_le (by omega)] at hB ⊢
      rw [cod_num.back pre (a.length : Int) _ (by unfold I64; omega)] at hB ⊢
      rw [chk_ok (by omega), Int.toNat_natCast]
      exact hB
/-- all of some bytes -/
def whole (right : α → Bool) (er : Int) (d : α) (get : List UInt8 → Int × Int → α × Int × Int) (l : List UInt8) : α × Int :=
  if (get l (0, 0)).2.2 = 0 then (if (get l (0, 0)).2.1 = l.length ∧ right (get l (0, 0)).1 = true then ((get l (0, 0)).1, 0) else (d, er)) else (d, (get l (0, 0)).2.2)
theorem whole_back (A : Cod ok put get) {right : α → Bool} {er : Int} {d a : α} (hr : right a = true) (ho : ok a) : whole right er d get (put a) = (a, 0) := by
  have h := A.back [] a [] ho
  simp only [List.nil_append, List.append_nil, List.length_nil, Int.natCast_zero, Int.zero_add] at h
  unfold whole
  rw [h]
  rw [if_pos rfl, if_pos ⟨rfl, hr⟩]
theorem whole_kept (A : Cod ok put get) {right : α → Bool} {er : Int} {d a : α} {l : List UInt8} (he : er ≠ 0) (h : whole right er d get l = (a, 0)) : right a = true ∧ ok a ∧ put a = l := by
  unfold whole at h
  obtain ⟨a1, p, e, h1⟩ : ∃ a1 p e, get l (0, 0) = (a1, p, e) := ⟨_, _, _, rfl⟩
  rw [h1] at h
  dsimp only at h
  split at h
  · rename_i hz
    subst hz
    split at h
    · rename_i hp
      injection h with h _
      subst h
      obtain ⟨k1, k2, k3, k4⟩ := A.kept l 0 a1 p (Nat.zero_le _) h1
      refine ⟨hp.2, k1, ?_⟩
      rw [List.drop_zero, Nat.zero_add, List.drop_of_length_le (by omega), List.append_nil] at k4
      exact k4.symm
    · injection h with _ h; exact absurd h he
  · rename_i hz
    injection h with _ h; exact absurd h hz
theorem whole_cut (A : Cod ok put get) {right : α → Bool} {er : Int} {d a : α} {c : Nat} (ho : ok a) (hc : c < (put a).length) : whole right er d get ((put a).take c) = (d, 11) := by
  have h := A.cut [] a c ho hc
  simp only [List.nil_append, List.length_nil, Int.natCast_zero] at h
  unfold whole
  rw [if_neg (by rw [h]; decide), h]
end
end Go.Cov


/-! modules as data: their bytes, their reading. Plain laws -/
namespace Go.Cov
open Go.RowKit
theorem row_cut_at (pre : List UInt8) (ls : List (List UInt8)) (c : Nat) (h : ls.length ≤ 1024) (hf : fits ls = true) (hc : c < (rw' ls).length) : rowR (pre ++ (rw' ls).take c) (pre.length : Int) = ([], 0, 11) := by
  have hlen : (rw' ls).length = 4 + (ls.flatMap tx).length := by rw [rw', List.length_append, be_length]
  by_cases h4 : c < 4
  · have hs : sizeR (pre ++ (rw' ls).take c) (pre.length : Int) 1024 = (0, 0, 11) := by
      rw [sizeR, getR_end pre ((rw' ls).take c) 4 (by rw [List.length_take]; omega)]; rfl
    rw [rowR, hs]; rfl
  · have e : pre ++ (rw' ls).take c = pre ++ (be 4 ls.length ++ (ls.flatMap tx).take (c - 4)) := by
      rw [rw', List.take_append, be_length, List.take_of_length_le (by rw [be_length]; omega)]
    have hs := size_back pre ((ls.flatMap tx).take (c - 4)) ls.length 1024 h (by omega)
    have hr := rowGo_cut ls (pre ++ be 4 ls.length) (c - 4) (fits_mem hf) (by omega)
    rw [List.length_append, be_length, Int.natCast_add, List.append_assoc] at hr
    rw [e, rowR, hs, if_pos rfl]
    exact hr
theorem cod_row : Cod (fun ls => ls.length ≤ 1024 ∧ fits ls = true) rw' (nx rowR []) where
  err := nx_err _ _
  back := fun pre a rest h => by rw [nx_ok, row_back pre rest a h.1 h.2]
  kept := fun l k a p hk h => by
    rw [nx_ok] at h
    obtain ⟨h1, h2, h3, h4, h5⟩ := row_kept h
    exact ⟨⟨h1, h2⟩, h3, h4, h5⟩
  cut := fun pre a c h hc => by rw [nx_ok, row_cut_at pre a c h.1 h.2 hc]
/-- an instruction -/
abbrev ID := Int × Int
def putI (i : ID) : List UInt8 := be 8 i.1 ++ be 8 i.2
def getI : List UInt8 → Int × Int → ID × Int × Int := sq (nx numR 0) (nx numR 0)
/-- a function: its name, parameters, result, slots, instructions -/
abbrev CD := List UInt8 × List Int × Int × Int × List ID
def putC (c : CD) : List UInt8 := tx c.1 ++ ((be 8 c.2.1.length ++ c.2.1.flatMap (be 8)) ++ (be 8 c.2.2.1 ++ (be 8 c.2.2.2.1 ++ (be 8 c.2.2.2.2.length ++ c.2.2.2.2.flatMap putI))))
def getC : List UInt8 → Int × Int → CD × Int × Int := sq (nx bytesR []) (sq (cnt 16 111 (nx numR 0)) (sq (nx numR 0) (sq (nx numR 0) (cnt 16384 111 getI))))
def okC (c : CD) : Prop := c.1.length ≤ 65536 ∧ (c.2.1.length ≤ 16 ∧ ∀ x ∈ c.2.1, I64 x) ∧ I64 c.2.2.1 ∧ I64 c.2.2.2.1 ∧ (c.2.2.2.2.length ≤ 16384 ∧ ∀ x ∈ c.2.2.2.2, I64 x.1 ∧ I64 x.2)
theorem cod_code : Cod okC putC getC := cod_text.seq ((cod_num.count 16 111 (by decide) (by decide)).seq (cod_num.seq (cod_num.seq ((cod_num.seq cod_num).count 16384 111 (by decide) (by decide)))))
/-- a module: its functions, its texts -/
abbrev MoD := List CD × List (List UInt8)
def putMo (m : MoD) : List UInt8 := (be 8 m.1.length ++ m.1.flatMap putC) ++ rw' m.2
def getMo : List UInt8 → Int × Int → MoD × Int × Int := sq (cnt 64 111 getC) (nx rowR [])
def okMo (m : MoD) : Prop := (m.1.length ≤ 64 ∧ ∀ x ∈ m.1, okC x) ∧ (m.2.length ≤ 1024 ∧ fits m.2 = true)
theorem cod_mod : Cod okMo putMo getMo := (cod_code.count 64 111 (by decide) (by decide)).seq cod_row
def typedD (t : Int) : Bool := decide (1 ≤ t ∧ t ≤ 3)
def opD (i : ID) : Bool := decide (1 ≤ i.1 ∧ i.1 ≤ 18)
def rightC (c : CD) : Bool := decide (c.1.length ≤ 16 ∧ c.2.1.length ≤ 16 ∧ (0 ≤ c.2.2.1 ∧ c.2.2.1 ≤ 3) ∧ (c.2.1.length : Int) ≤ c.2.2.2.1 ∧ c.2.2.2.1 ≤ 256 ∧ c.2.2.2.2.length ≤ 16384) && c.2.1.all typedD && c.2.2.2.2.all opD
def rightMo (m : MoD) : Bool := decide (m.1.length ≤ 64 ∧ m.2.length ≤ 1024) && m.2.all (fun s => decide (s.length ≤ 64)) && m.1.all rightC
/-- are the instructions' numbers ints? -/
def intMo (m : MoD) : Prop := ∀ c ∈ m.1, ∀ i ∈ c.2.2.2.2, I64 i.2
theorem rightC_facts {c : CD} (h : rightC c = true) : (c.1.length ≤ 16 ∧ c.2.1.length ≤ 16 ∧ (0 ≤ c.2.2.1 ∧ c.2.2.1 ≤ 3) ∧ (c.2.1.length : Int) ≤ c.2.2.2.1 ∧ c.2.2.2.1 ≤ 256 ∧ c.2.2.2.2.length ≤ 16384) ∧ (∀ t ∈ c.2.1, 1 ≤ t ∧ t ≤ 3) ∧ ∀ i ∈ c.2.2.2.2, 1 ≤ i.1 ∧ i.1 ≤ 18 := by
  unfold rightC at h
  rw [Bool.and_eq_true, Bool.and_eq_true, List.all_eq_true, List.all_eq_true] at h
  exact ⟨of_decide_eq_true h.1.1, fun t ht => of_decide_eq_true (h.1.2 t ht), fun i hi => of_decide_eq_true (h.2 i hi)⟩
theorem rightMo_facts {m : MoD} (h : rightMo m = true) : m.1.length ≤ 64 ∧ m.2.length ≤ 1024 ∧ (∀ s ∈ m.2, s.length ≤ 64) ∧ ∀ c ∈ m.1, rightC c = true := by
  unfold rightMo at h
  rw [Bool.and_eq_true, Bool.and_eq_true, List.all_eq_true, List.all_eq_true] at h
  have h1 := of_decide_eq_true h.1.1
  exact ⟨h1.1, h1.2, fun s hs => of_decide_eq_true (h.1.2 s hs), h.2⟩
theorem okMo_of {m : MoD} (h : rightMo m = true) (hi : intMo m) : okMo m := by
  obtain ⟨h1, h2, h3, h4⟩ := rightMo_facts h
  refine ⟨⟨h1, fun c hc => ?_⟩, h2, ?_⟩
  · obtain ⟨⟨g1, g2, g3, g4, g5, g6⟩, g7, g8⟩ := rightC_facts (h4 c hc)
    refine ⟨by omega, ⟨g2, fun x hx => ?_⟩, by unfold I64; omega, by unfold I64; omega, g6, fun x hx => ⟨?_, hi c hc x hx⟩⟩
    · have := g7 x hx; unfold I64; omega
    · have := g8 x hx; unfold I64; omega
  · rw [fits, List.all_eq_true]
    intro s hs
    have := h3 s hs
    simp; omega
def zeroMo : MoD := ([], [])
def readMo (l : List UInt8) : MoD × Int := whole rightMo 111 zeroMo getMo l
def bytesMo (m : MoD) : List UInt8 × Int := if rightMo m = true then (putMo m, 0) else ([], 111)
theorem mod_back {m : MoD} (h : rightMo m = true) (hi : intMo m) : readMo (putMo m) = (m, 0) := whole_back cod_mod h (okMo_of h hi)
theorem mod_kept {m : MoD} {l : List UInt8} (h : readMo l = (m, 0)) : rightMo m = true ∧ putMo m = l := ⟨(whole_kept cod_mod (by decide) h).1, (whole_kept cod_mod (by decide) h).2.2⟩
theorem mod_cut {m : MoD} {c : Nat} (h : rightMo m = true) (hi : intMo m) (hc : c < (putMo m).length) : readMo ((putMo m).take c) = (zeroMo, 11) := whole_cut cod_mod (okMo_of h hi) hc
theorem mod_more {m : MoD} (h : rightMo m = true) (hi : intMo m) (x : UInt8) : readMo (putMo m ++ [x]) = (zeroMo, 111) := by
  have hB := cod_mod.back [] m [x] (okMo_of h hi)
  simp only [List.nil_append, List.length_nil, Int.natCast_zero, Int.zero_add] at hB
  unfold readMo whole
  rw [hB]
  dsimp only
  rw [if_pos rfl, if_neg (fun hh => by have h1 := hh.1; rw [List.length_append, List.length_singleton] at h1; omega)]
theorem bytesMo_ok {m : MoD} (h : rightMo m = true) : bytesMo m = (putMo m, 0) := by unfold bytesMo; rw [if_pos h]
theorem bytesMo_no {m : MoD} (h : rightMo m = false) : bytesMo m = ([], 111) := by unfold bytesMo; rw [if_neg (by rw [h]; decide)]
theorem flat8_len : ∀ (l : List Int), (l.flatMap (be 8)).length = 8 * l.length
  | [] => rfl
  | x :: l => by rw [List.flatMap_cons, List.length_append, be_length, flat8_len l, List.length_cons]; omega
theorem flatI_len : ∀ (l : List ID), (l.flatMap putI).length = 16 * l.length
  | [] => rfl
  | x :: l => by rw [List.flatMap_cons, List.length_append, flatI_len l, List.length_cons, putI, List.length_append, be_length, be_length]; omega
/-- what a function asks for -/
def szC (c : CD) : Nat := 4 + c.1.length + 8 * (4 + c.2.1.length) + 16 * c.2.2.2.2.length
theorem putC_len (c : CD) : (putC c).length = szC c := by
  unfold putC szC
  simp only [List.length_append, be_length, tx_length, flat8_len, flatI_len]; omega
/-- what some functions ask for, some texts -/
def szCs : List CD → Nat
  | [] => 0
  | c :: l => szC c + szCs l
def szTs : List (List UInt8) → Nat
  | [] => 0
  | t :: l => 4 + t.length + szTs l
theorem putCs_len : ∀ (l : List CD), (l.flatMap putC).length = szCs l
  | [] => rfl
  | x :: l => by rw [List.flatMap_cons, List.length_append, putCs_len l, putC_len, szCs]
theorem putTs_len : ∀ (l : List (List UInt8)), (l.flatMap tx).length = szTs l
  | [] => rfl
  | x :: l => by rw [List.flatMap_cons, List.length_append, putTs_len l, tx_length, szTs]
theorem putMo_len (m : MoD) : (putMo m).length = 12 + szCs m.1 + szTs m.2 := by
  unfold putMo rw'
  simp only [List.length_append, be_length, putCs_len, putTs_len]; omega
theorem szCs_snoc : ∀ (l : List CD) (c : CD), szCs (l ++ [c]) = szCs l + szC c
  | [], c => by simp [szCs]
  | x :: l, c => by rw [List.cons_append, szCs, szCs, szCs_snoc l c]; omega
theorem szTs_snoc : ∀ (l : List (List UInt8)) (c : List UInt8), szTs (l ++ [c]) = szTs l + (4 + c.length)
  | [], c => by simp [szTs]
  | x :: l, c => by rw [List.cons_append, szTs, szTs, szTs_snoc l c]; omega
theorem zeroMo_right : rightMo zeroMo = true := by decide
theorem zeroMo_int : intMo zeroMo := fun c hc => by cases hc
theorem zeroMo_len : (putMo zeroMo).length = 12 := by rw [putMo_len]; rfl
theorem szC_le {c : CD} (h : rightC c = true) : szC c ≤ 262336 := by
  obtain ⟨⟨g1, g2, g3, g4, g5, g6⟩, _⟩ := rightC_facts h
  unfold szC; omega
theorem szCs_le : ∀ (l : List CD), (∀ c ∈ l, rightC c = true) → szCs l ≤ 262336 * l.length
  | [], _ => Nat.zero_le _
  | c :: l, h => by
    have h1 := szC_le (h c (List.mem_cons_self ..))
    have h2 := szCs_le l (fun x hx => h x (List.mem_cons_of_mem _ hx))
    rw [szCs, List.length_cons]; omega
theorem szTs_le : ∀ (l : List (List UInt8)), (∀ s ∈ l, s.length ≤ 64) → szTs l ≤ 68 * l.length
  | [], _ => Nat.zero_le _
  | c :: l, h => by
    have h1 := h c (List.mem_cons_self ..)
    have h2 := szTs_le l (fun x hx => h x (List.mem_cons_of_mem _ hx))
    rw [szTs, List.length_cons]; omega
theorem putMo_le {m : MoD} (h : rightMo m = true) : (putMo m).length ≤ 17000000 := by
  obtain ⟨h1, h2, h3, h4⟩ := rightMo_facts h
  have := szCs_le m.1 h4
  have := szTs_le m.2 h3
  rw [putMo_len]; omega
end Go.Cov


/-! a slice of bytes as a value; a slice of such slices (over any program) -/
namespace Go.Cov
open Go.RowKit
theorem conv_bn {P : Program} {w : World} {src dst e : TypeId} (hs : P.underlying src = some (.slice e)) (he : P.underlying e = some (.int .u8)) (hd : P.underlying dst = some .string) {A : Option Addr} {l : List UInt8} (h : Rd w A (l.map byt)) (n cap : Nat) (hn : l.length = n) :
    (convert src dst (.slice A n cap)).run P w = .ok (.string (str l)) w := by
  subst hn
  exact conv_bs hs he hd h cap
theorem toList_str (l : List UInt8) : (str l).toList = l := by
  have : (str l).data.toList = l := by simp [str]
  rw [ByteArray.toList_eq]
  exact this
theorem str_eq (a : List UInt8) : ((str a).toList == (str a).toList) = true := by simp
theorem str_ne {a b : List UInt8} (h : a ≠ b) : ((str a).toList == (str b).toList) = false := by
  rw [toList_str, toList_str]; simpa using h
theorem str_beq (a b : List UInt8) : ((str a).toList == (str b).toList) = decide (a = b) := by
  rw [toList_str, toList_str]
  by_cases h : a = b
  · subst h; simp
  · rw [decide_eq_false h]; simpa using h
theorem below_alloc (w : World) (o : Obj) : Below w.heap.size w (w.alloc o) := (Below.refl _ _).alloc (Nat.le_refl _) o
theorem byt_one (l : List UInt8) : ∀ u ∈ l.map byt, u.oneCell' = true := by
  intro u hu
  obtain ⟨b, _, rfl⟩ := List.mem_map.1 hu
  rfl
/-- a box that a call made, whole -/
theorem own_box (w : World) (e : TypeId) (cs : Array Value) (n : Nat) (hn : cs.size = n) (hm : n ≤ maxLen) : (w.alloc (.cells cs e)).ownsRow w.heap.size e 1 (.slice (some ⟨w.heap.size, 0, none⟩) n n) n cs.toList := by
  subst hn
  exact ⟨by simp, .inr ⟨w.heap.size, cs.size, cs, rfl, Nat.le_refl _, heap_alloc_new w _, Nat.le_refl _, hm, by simp, by rw [Nat.mul_one]; exact List.take_of_length_le (by simp)⟩⟩
theorem rd_boxf (w : World) (cs : Array Value) (t : TypeId) (fr : Nat × Nat) : Rd (w.alloc (.cells cs t fr)) (some ⟨w.heap.size, 0, none⟩) cs.toList := by
  intro j u hj
  refine ⟨_, rfl, ?_⟩
  rw [add_none, cell_of_row (w.alloc (.cells cs t fr)) w.heap.size (0 + j) cs t fr (heap_alloc_new w _)]
  simpa using hj
theorem box_cell (w : World) (cs : Array Value) (t : TypeId) (i : Nat) (v : Value) (h : cs[i]? = some v) : (w.alloc (.cells cs t)).cell? ⟨w.heap.size, i, none⟩ = some v := by
  rw [cell_of_row (w.alloc (.cells cs t)) w.heap.size i cs t (0, 0) (heap_alloc_new w _)]
  exact h
/-- 'v is a slice that reads l' -/
def Sl (w : World) (v : Value) (l : List UInt8) : Prop := ∃ A c, v = .slice A l.length c ∧ l.length ≤ c ∧ c ≤ maxLen ∧ Rd w A (l.map byt)
theorem Sl.keep {w w' : World} {v : Value} {l : List UInt8} (h : Sl w v l) (hk : ∀ p u, w.cell? p = some u → w'.cell? p = some u) : Sl w' v l := by
  obtain ⟨A, c, h1, h2, h3, h4⟩ := h
  exact ⟨A, c, h1, h2, h3, h4.keep hk⟩
theorem Sl.below {w w' : World} {v : Value} {l : List UInt8} (h : Sl w v l) (hb : Below w.heap.size w w') : Sl w' v l := h.keep fun _ _ hc => (hb.cell (cell_lt hc)).trans hc
theorem Sl.len {w : World} {v : Value} {l : List UInt8} (h : Sl w v l) : l.length ≤ maxLen := by
  obtain ⟨A, c, _, h2, h3, _⟩ := h; omega
theorem own_sl {w : World} {base : Nat} {e : TypeId} {v : Value} {l : List UInt8} (h : w.ownsRow base e 1 v l.length (l.map byt)) : Sl w v l := by
  obtain ⟨A, c, rfl, h1, h2, _⟩ := own_shape h
  exact ⟨A, c, rfl, h1, h2, own_rd h⟩
/-- the cells from A on are slices that read these texts -/
def RowRd (w : World) (A : Option Addr) (ls : List (List UInt8)) : Prop := ∃ vs : List Value, Rd w A vs ∧ vs.length = ls.length ∧ ∀ (i : Nat) (l : List UInt8), ls[i]? = some l → ∃ v, vs[i]? = some v ∧ Sl w v l
theorem RowRd.keep {w w' : World} {A : Option Addr} {ls : List (List UInt8)} (h : RowRd w A ls) (hk : ∀ p u, w.cell? p = some u → w'.cell? p = some u) : RowRd w' A ls := by
  obtain ⟨vs, h1, h2, h3⟩ := h
  refine ⟨vs, h1.keep hk, h2, fun i l hl => ?_⟩
  obtain ⟨v, hv, hs⟩ := h3 i l hl
  exact ⟨v, hv, hs.keep hk⟩
theorem RowRd.below {w w' : World} {A : Option Addr} {ls : List (List UInt8)} (h : RowRd w A ls) (hb : Below w.heap.size w w') : RowRd w' A ls := h.keep fun _ _ hc => (hb.cell (cell_lt hc)).trans hc
theorem RowRd.at' {w : World} {A : Option Addr} {ls : List (List UInt8)} (h : RowRd w A ls) (i : Nat) (hi : i < ls.length) :
    ∃ ad B c, A = some ad ∧ w.cell? (ad.add i) = some (.slice B ls[i].length c) ∧ ls[i].length ≤ c ∧ c ≤ maxLen ∧ Rd w B (ls[i].map byt) := by
  obtain ⟨vs, h1, h2, h3⟩ := h
  obtain ⟨v, hv, B, c, rfl, hc, hm, hr⟩ := h3 i ls[i] (List.getElem?_eq_getElem hi)
  obtain ⟨ad, hA, hcell⟩ := h1 i _ hv
  exact ⟨ad, B, c, hA, hcell, hc, hm, hr⟩
theorem rd_grown {w w' : World} {A : Option Addr} {xs : List Value} {row : Option Nat} (h : Rd w A xs) (hg : w.grownBy w' row) (hne : ∀ ad, A = some ad → some ad.block ≠ row) : Rd w' A xs := fun j u hj => by
  obtain ⟨ad, hA, hc⟩ := h j u hj
  exact ⟨ad, hA, hg.cell hc (by rw [block_add]; exact hne ad hA)⟩
/-- a slice of slices that the call owns; what its cells lead to lies outside its own block -/
def OwnRows (w : World) (base : Nat) (e : TypeId) (v : Value) (ls : List (List UInt8)) : Prop :=
  ∃ vs : List Value, w.ownsRow base e 1 v ls.length vs ∧ ∀ (i : Nat) (l : List UInt8), ls[i]? = some l → ∃ A c, vs[i]? = some (.slice A l.length c) ∧ l.length ≤ c ∧ c ≤ maxLen ∧ Rd w A (l.map byt) ∧ ∀ ad, A = some ad → base ≤ ad.block ∧ ad.block < w.heap.size ∧ some ad.block ≠ v.ownBlock
theorem OwnRows.nil (w : World) (base : Nat) (e : TypeId) : OwnRows w base e (.slice none 0 0) [] := ⟨[], World.ownsRow_nil _ _ _ _, fun i l h => by simp at h⟩
theorem OwnRows.rd {w : World} {base : Nat} {e : TypeId} {v : Value} {ls : List (List UInt8)} (h : OwnRows w base e v ls) : ∃ A c, v = .slice A ls.length c ∧ ls.length ≤ c ∧ c ≤ maxLen ∧ RowRd w A ls := by
  obtain ⟨vs, h1, h2⟩ := h
  obtain ⟨A, c, rfl, hc, hm, _⟩ := own_shape h1
  refine ⟨A, c, rfl, hc, hm, vs, own_rd h1, by have := h1.1; omega, fun i l hl => ?_⟩
  obtain ⟨B, d, hv, h3, h4, h5, _⟩ := h2 i l hl
  exact ⟨_, hv, B, d, rfl, h3, h4, h5⟩
theorem OwnRows.below {w w' : World} {base : Nat} {e : TypeId} {v : Value} {ls : List (List UInt8)} (h : OwnRows w base e v ls) (hb : Below w.heap.size w w') : OwnRows w' base e v ls := by
  obtain ⟨vs, h1, h2⟩ := h
  refine ⟨vs, own_below h1 hb, fun i l hl => ?_⟩
  obtain ⟨B, d, hv, h3, h4, h5, h6⟩ := h2 i l hl
  exact ⟨B, d, hv, h3, h4, h5.below hb, fun ad hB => ⟨(h6 ad hB).1, Nat.lt_of_lt_of_le (h6 ad hB).2.1 hb.size, (h6 ad hB).2.2⟩⟩
theorem OwnRows.mono {w : World} {base base' : Nat} {e : TypeId} {v : Value} {ls : List (List UInt8)} (h : OwnRows w base e v ls) (hb : base' ≤ base) : OwnRows w base' e v ls := by
  obtain ⟨vs, h1, h2⟩ := h
  refine ⟨vs, own_mono h1 hb, fun i l hl => ?_⟩
  obtain ⟨B, d, hv, h3, h4, h5, h6⟩ := h2 i l hl
  exact ⟨B, d, hv, h3, h4, h5, fun ad hB => ⟨Nat.le_trans hb (h6 ad hB).1, (h6 ad hB).2⟩⟩
/-- kept behind a write into a block below its own -/
theorem OwnRows.kept {w w' : World} {base : Nat} {e : TypeId} {v : Value} {ls : List (List UInt8)} {row : Option Nat} (h : OwnRows w base e v ls) (hg : w.grownBy w' row) (hr : ∀ g, row = some g → g < base) : OwnRows w' base e v ls := by
  obtain ⟨vs, h1, h2⟩ := h
  refine ⟨vs, h1.kept hg ?_, fun i l hl => ?_⟩
  · cases hv : v.ownBlock with
    | none => exact .inl rfl
    | some k => right; intro hh; have := hr k hh.symm; have := (own_lt h1 hv).1; omega
  · obtain ⟨B, d, hv, h3, h4, h5, h6⟩ := h2 i l hl
    refine ⟨B, d, hv, h3, h4, rd_grown h5 hg (fun ad hB hh => ?_), fun ad hB => ⟨(h6 ad hB).1, Nat.lt_of_lt_of_le (h6 ad hB).2.1 hg.size, (h6 ad hB).2.2⟩⟩
    have := hr _ hh.symm
    have := (h6 ad hB).1
    omega
/-- a row of cells kept behind a write into a block below its own -/
theorem own_keep {w w' : World} {base : Nat} {e : TypeId} {size : Nat} {v : Value} {n : Nat} {xs : List Value} {row : Option Nat} (h : w.ownsRow base e size v n xs) (hg : w.grownBy w' row) (hr : ∀ g, row = some g → g < base) : w'.ownsRow base e size v n xs := h.kept hg (by
  cases hv : v.ownBlock with
  | none => exact .inl rfl
  | some k => right; intro hh; have := hr k hh.symm; have := (own_lt h hv).1; omega)
/-- what 'append(out, s)' leaves: s a slice that lies outside out's block -/
theorem OwnRows.app {w w1 : World} {base : Nat} {e : TypeId} {v v' : Value} {ls : List (List UInt8)} {vs : List Value} {l : List UInt8} {A : Option Addr} {c : Nat}
    (h2 : ∀ (i : Nat) (l : List UInt8), ls[i]? = some l → ∃ A c, vs[i]? = some (.slice A l.length c) ∧ l.length ≤ c ∧ c ≤ maxLen ∧ Rd w A (l.map byt) ∧ ∀ ad, A = some ad → base ≤ ad.block ∧ ad.block < w.heap.size ∧ some ad.block ≠ v.ownBlock)
    (hvl : vs.length = ls.length) (ho : w1.ownsRow base e 1 v' (ls.length + 1) (vs ++ [.slice A l.length c])) (hg : w.grownBy w1 v.ownBlock) (hat : v'.ownBlock = v.ownBlock ∨ v'.ownBlock = some w.heap.size)
    (hc : l.length ≤ c) (hm : c ≤ maxLen) (hr : Rd w A (l.map byt)) (hne : ∀ ad, A = some ad → base ≤ ad.block ∧ ad.block < w.heap.size ∧ some ad.block ≠ v.ownBlock) : OwnRows w1 base e v' (ls ++ [l]) := by
  have hnew : ∀ ad : Addr, base ≤ ad.block ∧ ad.block < w.heap.size ∧ some ad.block ≠ v.ownBlock → base ≤ ad.block ∧ ad.block < w1.heap.size ∧ some ad.block ≠ v'.ownBlock := by
    intro ad ⟨h0, h1, h3⟩
    refine ⟨h0, Nat.lt_of_lt_of_le h1 hg.size, fun he => ?_⟩
    rcases hat with h4 | h4
    · rw [h4] at he; exact h3 he
    · rw [h4] at he; injection he with he; omega
  refine ⟨_, by simpa using ho, fun i x hx => ?_⟩
  by_cases hi : i < ls.length
  · rw [List.getElem?_append_left hi] at hx
    obtain ⟨B, d, hv, h3, h4, h5, h6⟩ := h2 i x hx
    exact ⟨B, d, by rw [List.getElem?_append_left (by omega)]; exact hv, h3, h4, rd_grown h5 hg (fun ad hB => (h6 ad hB).2.2), fun ad hB => hnew ad (h6 ad hB)⟩
  · rw [List.getElem?_append_right (by omega)] at hx
    have hi0 : i - ls.length = 0 := by
      rcases Nat.eq_zero_or_pos (i - ls.length) with h | h
      · exact h
      · rw [List.getElem?_eq_none (by simp; omega)] at hx; cases hx
    rw [hi0] at hx
    injection hx with hx
    subst hx
    refine ⟨A, c, ?_, hc, hm, rd_grown hr hg (fun ad hA => (hne ad hA).2.2), fun ad hA => hnew ad (hne ad hA)⟩
    rw [List.getElem?_append_right (by omega), hvl, hi0]; rfl
end Go.Cov


/-! 'append' of a slice in a region that draws its order. Over any program. -/
namespace Go.Cov
open Go.RowKit
theorem oper_app {P : Program} {w : World} {ops : Array Oper} {o : Oper} {a : Act} {K : Act → World → Prop} {Q : Exit → Act → World → Prop} (hw : Region.wanted o (yielded ops a.tmps) = true) (s x : Operand) (t : TypeId)
    (ho : o.op = .call { callee := .builtin .append, args := #[s, x], argTypes := #[t, t] })
    (base : Nat) (e : TypeId) {z : Value} {size bytes : Nat} (ht : P.underlying t = some (.slice e)) (hinfo : (P.info? e).map (fun i => (i.zero, i.size, i.bytes)) = some (some z, size, bytes))
    (hzs : z.cells.size = size) (hsz : 0 < size)
    (v : Value) (n : Nat) (xs : List Value) (hs : a.eval s = v) (hown : w.ownsRow base e size v n xs)
    (A : Option Addr) (m c : Nat) (news : List Value) (hx : a.eval x = .slice A m c) (hl : news.length = m * size) (hr : Rd w A news) (h1 : ∀ u ∈ news, u.oneCell' = true)
    (h63 : (n + m) * bytes ≤ 140737488355328) (h64 : n + m ≤ 140737488355328) (hbase : base ≤ w.heap.size)
    (h : ∀ v' w', w'.ownsRow base e size v' (n + m) (xs ++ news) → w.grownBy w' v.ownBlock → K (a.put o.dst v') w') :
    if Region.wanted o (yielded ops a.tmps) = true then Oper.wp P o a w K Q else K (a.put o.dst undef) w := by
  obtain ⟨i, hi, hz0, hz1, hz2⟩ := info_parts hinfo
  rw [if_pos hw]
  by_cases hA : A = none
  · subst hA
    have hnews : news = [] := by
      cases news with
      | nil => rfl
      | cons y l => obtain ⟨ad, hn, _⟩ := hr 0 y rfl; cases hn
    subst hnews
    have hm : m = 0 := by
      rcases Nat.eq_zero_or_pos m with h0 | h0
      · exact h0
      · have := Nat.mul_pos h0 hsz
        simp at hl
        omega
    subst hm
    have hrun : (Builtin.append_ #[t, t] o.type #[v, .slice none 0 c]).run P w = .ok v w := by
      rcases hown.2 with ⟨rfl, rfl⟩ | ⟨g, cap, cur, rfl, _, _, hnc, _⟩
      · simp [Builtin.append_, run_underlying ht, sizeOf, typeInfo, hi, Builtin.lenOf, Builtin.firstCells]
      · simp [Builtin.append_, run_underlying ht, sizeOf, typeInfo, hi, Builtin.lenOf, Builtin.firstCells, hnc, storeCells]
    unfold Oper.wp execOp
    simp only [ho, resolve, invoke, builtin, Sem.run_bind, Sem.run_pure, Result.andThen_ok, List.map_toArray, List.map_cons, List.map_nil, hs, hx, hrun]
    exact h v w (by simpa using hown) (World.grownBy.refl w _)
  · obtain ⟨ad, rfl⟩ : ∃ ad, A = some ad := by cases A with
      | none => exact absurd rfl hA
      | some ad => exact ⟨ad, rfl⟩
    have hcells : ∀ j u, news[j]? = some u → w.cell? (ad.add j) = some u := by
      intro j u hj
      obtain ⟨ad', he, hc⟩ := hr j u hj
      cases he
      exact hc
    obtain ⟨v', w', hrun, h2, h3, _, h5⟩ := run_append_own_at (P := P) w base t o.type e i z size bytes ht hi hz0 hz1 hz2 hzs hsz v n xs hown ad m c news hl hcells h1 (by simp only [maxLen]; omega) h63 hbase
    unfold Oper.wp execOp
    simp only [ho, resolve, invoke, builtin, Sem.run_bind, Sem.run_pure, Result.andThen_ok, List.map_toArray, List.map_cons, List.map_nil, hs, hx, hrun]
    exact h v' w' h2 h3
theorem run_slice_to {P : Program} {t e : TypeId} {z : Value} {size bytes : Nat} (ht : P.underlying t = some (.slice e)) (hinfo : (P.info? e).map (fun i => (i.zero, i.size, i.bytes)) = some (some z, size, bytes))
    (A : Option Addr) (n c m : Nat) (kd' : IntKind) (j : Int) (hj : j = m) (hc : m ≤ c) (w : World) :
    (Instr.sliceAt t (.slice A n c) none (some (.int kd' j)) none).run P w = .ok (.slice A m c) w := by
  subst hj
  obtain ⟨inf, hinf, _, hz1, _⟩ := info_parts hinfo
  simp [Instr.sliceAt, run_underlying ht, Instr.slice, Instr.sliceBounds, Instr.sliceBound, asIntOf, sizeOf, typeInfo, hinf, hc, Addr.add]
end Go.Cov


/-! slices of structs whose fields are one cell each, some of them slices of bytes (over any program) -/
namespace Go.Cov
open Go.RowKit
/-- how an element lies: its cells, and the slices of bytes among them with what they read -/
structure El (α : Type) where
  sz : Nat
  cells : α → List Value
  cons : α → List (Value × List UInt8)
  len : ∀ a, (cells a).length = sz
  one : ∀ a, ∀ u ∈ cells a, u.oneCell' = true
  pos : 0 < sz
section
variable {α : Type} {T : El α} {w w' : World} {A : Option Addr} {xs ys : List α}
theorem El.flat_len (T : El α) (xs : List α) : (xs.flatMap T.cells).length = xs.length * T.sz := by
  induction xs with
  | nil => simp
  | cons x xs ih => rw [List.flatMap_cons, List.length_append, ih, T.len, List.length_cons, Nat.add_mul]; omega
theorem El.flat_one (T : El α) (xs : List α) : ∀ u ∈ xs.flatMap T.cells, u.oneCell' = true := by
  intro u hu
  obtain ⟨a, _, ha⟩ := List.mem_flatMap.1 hu
  exact T.one a u ha
theorem El.flat_at (T : El α) (xs : List α) (i j : Nat) (hi : i < xs.length) (u : Value) (hu : (T.cells xs[i])[j]? = some u) : (xs.flatMap T.cells)[i * T.sz + j]? = some u := by
  induction xs generalizing i with
  | nil => simp at hi
  | cons x xs ih =>
    rw [List.flatMap_cons]
    cases i with
    | zero =>
      have hj : j < (T.cells x).length := (List.getElem?_eq_some_iff.1 hu).1
      rw [Nat.zero_mul, Nat.zero_add, List.getElem?_append_left hj]
      exact hu
    | succ i =>
      rw [List.getElem?_append_right (by rw [T.len, Nat.add_mul]; omega), T.len]
      rw [show (i + 1) * T.sz + j - T.sz = i * T.sz + j by rw [Nat.add_mul]; omega]
      exact ih i (by simpa using hi) hu
theorem El.flat_drop (T : El α) (xs : List α) (k : Nat) : (xs.drop k).flatMap T.cells = (xs.flatMap T.cells).drop (k * T.sz) := by
  induction xs generalizing k with
  | nil => simp
  | cons x xs ih =>
    cases k with
    | zero => simp
    | succ k =>
      have e : (k + 1) * T.sz - T.sz = k * T.sz := by rw [Nat.add_mul]; omega
      conv => rhs; rw [List.flatMap_cons, List.drop_append, List.drop_of_length_le (by rw [T.len, Nat.add_mul]; omega), T.len, List.nil_append, e]
      rw [List.drop_succ_cons, ih]
theorem El.flat_take (T : El α) (xs : List α) (k : Nat) : (xs.take k).flatMap T.cells = (xs.flatMap T.cells).take (k * T.sz) := by
  induction xs generalizing k with
  | nil => simp
  | cons x xs ih =>
    cases k with
    | zero => simp
    | succ k =>
      have e : (k + 1) * T.sz - T.sz = k * T.sz := by rw [Nat.add_mul]; omega
      conv => rhs; rw [List.flatMap_cons, List.take_append, List.take_of_length_le (by rw [T.len, Nat.add_mul]; omega), T.len, e]
      rw [List.take_succ_cons, List.flatMap_cons, ih]
/-- the elements xs lie from A on -/
def Els (T : El α) (w : World) (A : Option Addr) (xs : List α) : Prop := Rd w A (xs.flatMap T.cells) ∧ ∀ a ∈ xs, ∀ p ∈ T.cons a, Sl w p.1 p.2
theorem Els.nil (T : El α) (w : World) (A : Option Addr) : Els T w A [] := ⟨by simpa using Rd.nil w A, fun a h => by simp at h⟩
theorem Els.keep (h : Els T w A xs) (hk : ∀ p u, w.cell? p = some u → w'.cell? p = some u) : Els T w' A xs := ⟨h.1.keep hk, fun a ha p hp => (h.2 a ha p hp).keep hk⟩
theorem Els.below (h : Els T w A xs) (hb : Below w.heap.size w w') : Els T w' A xs := h.keep fun _ _ hc => (hb.cell (cell_lt hc)).trans hc
theorem Els.at' (h : Els T w A xs) (i : Nat) (hi : i < xs.length) : ∃ ad, A = some ad ∧ (∀ j u, (T.cells xs[i])[j]? = some u → w.cell? ((ad.add (i * T.sz)).add j) = some u) ∧ ∀ p ∈ T.cons xs[i], Sl w p.1 p.2 := by
  have h0 : 0 < (T.cells xs[i]).length := by rw [T.len]; exact T.pos
  obtain ⟨u0, hu0⟩ : ∃ u, (T.cells xs[i])[0]? = some u := ⟨_, List.getElem?_eq_getElem h0⟩
  obtain ⟨ad, hA, _⟩ := h.1 _ _ (T.flat_at xs i 0 hi u0 hu0)
  refine ⟨ad, hA, fun j u hj => ?_, h.2 _ (List.getElem_mem hi)⟩
  obtain ⟨ad', hA', hc⟩ := h.1 _ _ (T.flat_at xs i j hi u hj)
  rw [hA] at hA'
  cases hA'
  rw [add_add']
  exact hc
theorem Els.cut (h : Els T w A xs) (k : Nat) {c : Nat} (hc : xs.length ≤ c) : Els T w (cutA A c k T.sz) (xs.drop k) := by
  refine ⟨?_, fun a ha => h.2 a (List.mem_of_mem_drop ha)⟩
  rw [El.flat_drop]
  exact h.1.cutA k T.sz (by rw [El.flat_len]; exact Nat.mul_le_mul_right _ hc)
theorem Els.take (h : Els T w A xs) (k : Nat) : Els T w A (xs.take k) := by
  refine ⟨?_, fun a ha => h.2 a (List.mem_of_mem_take ha)⟩
  rw [El.flat_take]
  exact h.1.take _
/-- a slice kept behind a write elsewhere -/
theorem Sl.grown {p : Value} {l : List UInt8} {row : Option Nat} (h : Sl w p l) (hg : w.grownBy w' row) (hne : l ≠ [] → row ≠ none → p.ownBlock ≠ row) : Sl w' p l := by
  obtain ⟨A, c, rfl, h1, h2, h3⟩ := h
  refine ⟨A, c, rfl, h1, h2, fun j u hj => ?_⟩
  obtain ⟨ad, hA, hc⟩ := h3 j u hj
  subst hA
  refine ⟨ad, rfl, hg.cell hc (fun he => ?_)⟩
  rw [block_add] at he
  refine hne (fun hl => by subst hl; simp at hj) (fun hr => by rw [hr] at he; cases he) ?_
  exact he
theorem Sl.lt {p : Value} {l : List UInt8} (h : Sl w p l) (hl : l ≠ []) {k : Nat} (hk : p.ownBlock = some k) : k < w.heap.size := by
  obtain ⟨A, c, rfl, _, _, h3⟩ := h
  cases l with
  | nil => exact absurd rfl hl
  | cons x l =>
    obtain ⟨ad, rfl, hc⟩ := h3 0 (byt x) rfl
    have := cell_lt hc
    rw [block_add] at this
    simp only [Value.ownBlock] at hk
    injection hk with hk
    omega
/-- what the cells lead to lies outside v's block -/
def Off (T : El α) (w : World) (v : Value) (xs : List α) : Prop := ∀ a ∈ xs, ∀ p ∈ T.cons a, Sl w p.1 p.2 ∧ (p.2 ≠ [] → v.ownBlock ≠ none → p.1.ownBlock ≠ v.ownBlock)
theorem Off.below {v : Value} (h : Off T w v xs) (hb : Below w.heap.size w w') : Off T w' v xs := fun a ha p hp => ⟨(h a ha p hp).1.below hb, (h a ha p hp).2⟩
/-- all that was there before v's block -/
theorem Off.old {v : Value} (h : ∀ a ∈ xs, ∀ p ∈ T.cons a, Sl w p.1 p.2) (hb : Below w.heap.size w w') (hv : ∀ k, v.ownBlock = some k → w.heap.size ≤ k) : Off T w' v xs := fun a ha p hp => by
  refine ⟨(h a ha p hp).below hb, fun hl hn he => ?_⟩
  obtain ⟨k, hk⟩ := Option.ne_none_iff_exists'.1 hn
  have h1 := hv k hk
  have h2 := (h a ha p hp).lt hl (he.trans hk)
  omega
/-- a slice of structs that the call owns -/
def OwnEls (T : El α) (w : World) (base : Nat) (e : TypeId) (v : Value) (xs : List α) : Prop := w.ownsRow base e T.sz v xs.length (xs.flatMap T.cells) ∧ Off T w v xs
theorem OwnEls.nil (T : El α) (w : World) (base : Nat) (e : TypeId) : OwnEls T w base e (.slice none 0 0) [] := ⟨by simpa using World.ownsRow_nil w base e T.sz, fun a h => by simp at h⟩
variable {base : Nat} {e : TypeId} {v : Value}
theorem OwnEls.rd (h : OwnEls T w base e v xs) : ∃ A c, v = .slice A xs.length c ∧ xs.length ≤ c ∧ c ≤ maxLen ∧ Els T w A xs := by
  obtain ⟨A, c, rfl, hc, hm, _⟩ := own_shape h.1
  exact ⟨A, c, rfl, hc, hm, own_rd h.1, fun a ha p hp => (h.2 a ha p hp).1⟩
theorem OwnEls.below (h : OwnEls T w base e v xs) (hb : Below w.heap.size w w') : OwnEls T w' base e v xs := ⟨own_below h.1 hb, h.2.below hb⟩
theorem OwnEls.mono {base' : Nat} (h : OwnEls T w base e v xs) (hb : base' ≤ base) : OwnEls T w base' e v xs := ⟨own_mono h.1 hb, h.2⟩
theorem OwnEls.lt (h : OwnEls T w base e v xs) {k : Nat} (hk : v.ownBlock = some k) : base ≤ k ∧ k < w.heap.size := own_lt h.1 hk
/-- what 'append(out, ys..)' leaves -/
theorem OwnEls.app {w1 : World} {v' : Value} (h : Off T w v xs) (hy : Off T w v ys) (ho : w1.ownsRow base e T.sz v' (xs.length + ys.length) (xs.flatMap T.cells ++ ys.flatMap T.cells)) (hg : w.grownBy w1 v.ownBlock)
    (hat : v'.ownBlock = v.ownBlock ∨ v'.ownBlock = some w.heap.size) : OwnEls T w1 base e v' (xs ++ ys) := by
  refine ⟨by rw [List.length_append, List.flatMap_append]; exact ho, fun a ha p hp => ?_⟩
  have hh : Sl w p.1 p.2 ∧ (p.2 ≠ [] → v.ownBlock ≠ none → p.1.ownBlock ≠ v.ownBlock) := by
    rcases List.mem_append.1 ha with ha | ha
    · exact h a ha p hp
    · exact hy a ha p hp
  refine ⟨hh.1.grown hg (fun hl hn => hh.2 hl hn), fun hl hn he => ?_⟩
  rcases hat with h4 | h4
  · rw [h4] at he hn; exact hh.2 hl hn he
  · have := hh.1.lt hl (he.trans h4); omega
end
end Go.Cov


/-! 'append' with the word where the new slice lies; rows whose elements are somebody's. Over any program. -/
namespace Go.Cov
open Go.RowKit
theorem oper_app2 {P : Program} {w : World} {ops : Array Oper} {o : Oper} {a : Act} {K : Act → World → Prop} {Q : Exit → Act → World → Prop} (hw : Region.wanted o (yielded ops a.tmps) = true) (s x : Operand) (t : TypeId)
    (ho : o.op = .call { callee := .builtin .append, args := #[s, x], argTypes := #[t, t] })
    (base : Nat) (e : TypeId) {z : Value} {size bytes : Nat} (ht : P.underlying t = some (.slice e)) (hinfo : (P.info? e).map (fun i => (i.zero, i.size, i.bytes)) = some (some z, size, bytes))
    (hzs : z.cells.size = size) (hsz : 0 < size)
    (v : Value) (n : Nat) (xs : List Value) (hs : a.eval s = v) (hown : w.ownsRow base e size v n xs)
    (A : Option Addr) (m c : Nat) (news : List Value) (hx : a.eval x = .slice A m c) (hl : news.length = m * size) (hr : Rd w A news) (h1 : ∀ u ∈ news, u.oneCell' = true)
    (h63 : (n + m) * bytes ≤ 140737488355328) (h64 : n + m ≤ 140737488355328) (hbase : base ≤ w.heap.size)
    (h : ∀ v' w', w'.ownsRow base e size v' (n + m) (xs ++ news) → w.grownBy w' v.ownBlock → (v'.ownBlock = v.ownBlock ∨ v'.ownBlock = some w.heap.size) → K (a.put o.dst v') w') :
    if Region.wanted o (yielded ops a.tmps) = true then Oper.wp P o a w K Q else K (a.put o.dst undef) w := by
  obtain ⟨i, hi, hz0, hz1, hz2⟩ := info_parts hinfo
  rw [if_pos hw]
  by_cases hA : A = none
  · subst hA
    have hnews : news = [] := by
      cases news with
      | nil => rfl
      | cons y l => obtain ⟨ad, hn, _⟩ := hr 0 y rfl; cases hn
    subst hnews
    have hm : m = 0 := by
      rcases Nat.eq_zero_or_pos m with h0 | h0
      · exact h0
      · have := Nat.mul_pos h0 hsz
        simp at hl
        omega
    subst hm
    have hrun : (Builtin.append_ #[t, t] o.type #[v, .slice none 0 c]).run P w = .ok v w := by
      rcases hown.2 with ⟨rfl, rfl⟩ | ⟨g, cap, cur, rfl, _, _, hnc, _⟩
      · simp [Builtin.append_, run_underlying ht, sizeOf, typeInfo, hi, Builtin.lenOf, Builtin.firstCells]
      · simp [Builtin.append_, run_underlying ht, sizeOf, typeInfo, hi, Builtin.lenOf, Builtin.firstCells, hnc, storeCells]
    unfold Oper.wp execOp
    simp only [ho, resolve, invoke, builtin, Sem.run_bind, Sem.run_pure, Result.andThen_ok, List.map_toArray, List.map_cons, List.map_nil, hs, hx, hrun]
    exact h v w (by simpa using hown) (World.grownBy.refl w _) (.inl rfl)
  · obtain ⟨ad, rfl⟩ : ∃ ad, A = some ad := by cases A with
      | none => exact absurd rfl hA
      | some ad => exact ⟨ad, rfl⟩
    have hcells : ∀ j u, news[j]? = some u → w.cell? (ad.add j) = some u := by
      intro j u hj
      obtain ⟨ad', he, hc⟩ := hr j u hj
      cases he
      exact hc
    obtain ⟨v', w', hrun, h2, h3, _, h5⟩ := run_append_own_at (P := P) w base t o.type e i z size bytes ht hi hz0 hz1 hz2 hzs hsz v n xs hown ad m c news hl hcells h1 (by simp only [maxLen]; omega) h63 hbase
    unfold Oper.wp execOp
    simp only [ho, resolve, invoke, builtin, Sem.run_bind, Sem.run_pure, Result.andThen_ok, List.map_toArray, List.map_cons, List.map_nil, hs, hx, hrun]
    exact h v' w' h2 h3 h5
/-- a slice of bytes as an element -/
structure SlR where
  A : Option Addr
  c : Nat
  l : List UInt8
deriving Inhabited
def SlR.val (a : SlR) : Value := .slice a.A a.l.length a.c
def slEl : El SlR where
  sz := 1
  cells := fun a => [a.val]
  cons := fun a => [(a.val, a.l)]
  len := fun _ => rfl
  one := fun a u hu => by
    rw [List.mem_singleton.1 hu]; rfl
  pos := by decide
theorem slEl_row {w : World} {A : Option Addr} {xs : List SlR} (h : Els slEl w A xs) : RowRd w A (xs.map SlR.l) := by
  refine ⟨xs.map SlR.val, ?_, by simp, fun i l hl => ?_⟩
  · have e : ∀ l : List SlR, l.flatMap slEl.cells = l.map SlR.val := fun l => by
      induction l with
      | nil => rfl
      | cons x l ih => rw [List.flatMap_cons, ih]; rfl
    have := h.1
    rwa [e] at this
  · rw [List.getElem?_map] at hl
    obtain ⟨a, ha, rfl⟩ := Option.map_eq_some_iff.1 hl
    exact ⟨a.val, by rw [List.getElem?_map, ha]; rfl, h.2 a (List.mem_of_getElem? ha) (a.val, a.l) (by simp [slEl])⟩
end Go.Cov


/-
  Lemmas of this claim's own: what a law's arguments, read as data, give the walk. Over any program.
-/
namespace Go.Cov
open Go.RowKit Go.ChangeShapes Go.WideShapes Go.Deep

theorem rd_flat {α : Type} {w : World} (g : α → List Value) (sz : Nat) (hsz : ∀ a, (g a).length = sz) :
    ∀ (l : List α) (ad : Addr), (∀ i a, l[i]? = some a → ∀ r u, (g a)[r]? = some u → w.cell? (ad.add (i * sz + r)) = some u) → Rd w (some ad) (l.flatMap g)
  | [], ad, _ => by simpa using Rd.nil w (some ad)
  | x :: l, ad, h => by
    intro j u hj
    refine ⟨ad, rfl, ?_⟩
    rw [List.flatMap_cons] at hj
    by_cases hlt : j < sz
    · rw [List.getElem?_append_left (by rw [hsz]; exact hlt)] at hj
      simpa using h 0 x rfl j u hj
    · rw [List.getElem?_append_right (by rw [hsz]; omega), hsz] at hj
      obtain ⟨ad', he, hc⟩ := rd_flat g sz hsz l (ad.add sz) (fun i a ha r u hu => by
        have := h (i + 1) a (by simpa using ha) r u hu
        rw [add_add', show sz + (i * sz + r) = (i + 1) * sz + r by rw [Nat.add_mul]; omega]
        exact this) (j - sz) u hj
      cases he
      rw [add_add'] at hc
      rwa [show sz + (j - sz) = j by omega] at hc

section
variable {H : Type} {enc : TypeId × Value → H} {P : Program} {W : World}
/-- A slice of whatever elements, opened: its elements are a list of α, each by its cells. -/
theorem open_sl {α : Type} [Inhabited α] {t e sz fuel : Nat} {base : Nat} {spare : Nat → Bool} {held : Bool} (g : α → List Value) (Q : α → Prop) (ht : P.underlying t = some (.slice e)) (hc : P.cellsOf e = sz) (hsz : ∀ a, (g a).length = sz)
    (hinv : ∀ n cs x, DataW.trod enc P W base spare held n e cs = some x → ∃ a, cs = g a ∧ Q a)
    {cs : List Value} {x : DataW H × List MemPlace} (h : DataW.trod enc P W base spare held fuel t cs = some x) :
    ∃ (A : Option Addr) (c : Nat) (l : List α), cs = [.slice A l.length c] ∧ l.length ≤ c ∧ c ≤ maxLen ∧ (A = none → c = 0) ∧ Rd W A (l.flatMap g) ∧ (∀ a ∈ l, Q a) ∧
      (x.1 = .nil ∧ l = [] ∨ ∃ el sp, x.1 = .slice el sp ∧ el.length = l.length ∧ sp.length ≤ c) := by
  rcases open_slice ht h with ⟨rfl, rfl⟩ | ⟨a, len, cap, m, n, D, Pl, rfl, _, hl, hm, hmm, rfl, hi⟩
  · exact ⟨none, 0, [], rfl, Nat.le_refl _, by simp [maxLen], fun _ => rfl, Rd.nil _ _, by simp, .inl ⟨rfl, rfl⟩⟩
  · have hmle : len ≤ m := by subst hmm; split <;> omega
    have hmc : m ≤ cap := by subst hmm; split <;> omega
    obtain ⟨f, hf⟩ := choose_lt (n := len) (p := fun i z => Q z ∧ ∀ r, r < sz → W.cell? ((a.add (i * sz)).add r) = (g z)[r]?) (fun i hi' => by
      obtain ⟨cs', hcs, htr⟩ := hi i (by omega)
      obtain ⟨z, hz, hq⟩ := hinv _ _ _ htr
      rw [hc] at hcs
      obtain ⟨_, _, hcell⟩ := World.cells?_some hcs
      exact ⟨z, hq, fun r hr => by rw [hcell r hr, hz]⟩)
    refine ⟨some a, cap, (List.range len).map f, by simp, by simpa using hl, hm, (fun h => by cases h), ?_, ?_, .inr ⟨_, _, rfl, by simp, by simp; omega⟩⟩
    · refine rd_flat g sz hsz _ a fun i z hz r u hu => ?_
      rw [List.getElem?_map] at hz
      obtain ⟨i', hi', rfl⟩ := Option.map_eq_some_iff.1 hz
      have hlt : i < len := by simpa using (List.getElem?_eq_some_iff.1 hi').1
      have : i' = i := by simpa [hlt] using hi'.symm
      subst this
      have hr : r < sz := by rw [← hsz (f i')]; exact (List.getElem?_eq_some_iff.1 hu).1
      rw [← add_add', (hf i' hlt).2 r hr, hu]
    · intro z hz
      obtain ⟨i, hi', rfl⟩ := List.mem_map.1 hz
      exact (hf i (by simpa using hi')).1
/-- ... as a parameter -/
theorem open_arg {α : Type} [Inhabited α] {t e sz : Nat} {base : Nat} {spare : Nat → Bool} {held : Bool} (g : α → List Value) (Q : α → Prop) (ht : P.underlying t = some (.slice e)) (hc : P.cellsOf e = sz) (hsz : ∀ a, (g a).length = sz)
    (hinv : ∀ n cs x, DataW.trod enc P W base spare held n e cs = some x → ∃ a, cs = g a ∧ Q a)
    {r : Reach} {b0 : Nat} {v : Value} {d : DataW H} {p : List MemPlace} (hval : Value.okWide P W r b0 t v) (h : DataW.Trod enc P W base spare held t v d p) :
    ∃ (A : Option Addr) (c : Nat) (l : List α), v = .slice A l.length c ∧ l.length ≤ c ∧ c ≤ maxLen ∧ (A = none → c = 0) ∧ Rd W A (l.flatMap g) ∧ (∀ a ∈ l, Q a) ∧
      (d = .nil ∧ l = [] ∨ ∃ el sp, d = .slice el sp ∧ el.length = l.length ∧ sp.length ≤ c) := by
  obtain ⟨a0, n0, c0, rfl⟩ := okWide_slice ht hval
  obtain ⟨fuel, hf⟩ := h
  obtain ⟨A, c, l, hv, r⟩ := open_sl g Q ht hc hsz hinv hf
  exact ⟨A, c, l, by simpa [Value.cells] using hv, r⟩
end

theorem reach1 {P : Program} {e n : Nat} (he : P.bytesOf e = 1) (h : n * P.bytesOf e ≤ reachBytes) : n ≤ 140737488351232 := by
  rw [he] at h; simpa [reachBytes] using h
theorem wf64 {n : Int} (h : (Lit.int .i64 n).wf = true) : -9223372036854775808 ≤ n ∧ n < 9223372036854775808 := by
  have hb : -9223372036854775808 ≤ n ∧ n ≤ 9223372036854775807 := by simpa [Lit.wf, IntKind.min, IntKind.max, IntKind.signed, IntKind.bits] using h
  omega
theorem wfu8 {n : Int} (h : (Lit.int .u8 n).wf = true) : 0 ≤ n ∧ n < 256 := by
  have hb : 0 ≤ n ∧ n ≤ 255 := by simpa [Lit.wf, IntKind.min, IntKind.max, IntKind.signed, IntKind.bits] using h
  omega
theorem wfu16 {n : Int} (h : (Lit.int .u16 n).wf = true) : 0 ≤ n ∧ n < 65536 := by
  have hb : 0 ≤ n ∧ n ≤ 65535 := by simpa [Lit.wf, IntKind.min, IntKind.max, IntKind.signed, IntKind.bits] using h
  omega
theorem wfu32 {n : Int} (h : (Lit.int .u32 n).wf = true) : 0 ≤ n ∧ n < 4294967296 := by
  have hb : 0 ≤ n ∧ n ≤ 4294967295 := by simpa [Lit.wf, IntKind.min, IntKind.max, IntKind.signed, IntKind.bits] using h
  omega
theorem reach24 {P : Program} {e n : Nat} (he : P.bytesOf e = 24) (h : n * P.bytesOf e ≤ reachBytes) : n ≤ 140737488351236 := by
  rw [he] at h; simp [reachBytes] at h; omega
theorem flat1 {α : Type} {w : World} {A : Option Addr} (f : α → Value) {l : List α} (h : Rd w A (l.flatMap fun a => [f a])) : Rd w A (l.map f) := by
  have e : ∀ l : List α, l.flatMap (fun a => [f a]) = l.map f := fun l => by
    induction l with
    | nil => rfl
    | cons x l ih => rw [List.flatMap_cons, ih]; rfl
  rwa [e] at h

/-! ### elements of one cell -/
section
variable {H : Type} {enc : TypeId × Value → H} {P : Program} {W : World} {base : Nat} {spare : Nat → Bool} {held : Bool}
def one {α : Type} (f : α → Value) (a : α) : List Value := [f a]
theorem flat_one {α : Type} (f : α → Value) (l : List α) : l.flatMap (one f) = l.map f := by
  induction l with
  | nil => rfl
  | cons x l ih => rw [List.flatMap_cons, ih]; rfl
theorem inv_string {e : TypeId} (he : P.underlying e = some .string) : ∀ n cs x, DataW.trod enc P W base spare held n e cs = some x → ∃ a, cs = one Value.string a ∧ a.size ≤ maxLen := by
  intro n cs x h
  obtain ⟨s, rfl, _, hs⟩ := DataW.trod_string he h
  exact ⟨s, rfl, hs⟩
theorem inv_bool {e : TypeId} (he : P.underlying e = some .bool) : ∀ n cs x, DataW.trod enc P W base spare held n e cs = some x → ∃ a, cs = one Value.bool a ∧ True := by
  intro n cs x h
  obtain ⟨s, rfl, _⟩ := DataW.trod_bool he h
  exact ⟨s, rfl, trivial⟩
theorem u8_of_wf {n : Int} (h : (Lit.int .u8 n).wf = true) : ∃ b : UInt8, n = b.toNat := by
  have hb : 0 ≤ n ∧ n ≤ 255 := by simpa [Lit.wf, IntKind.min, IntKind.max, IntKind.signed, IntKind.bits] using h
  refine ⟨UInt8.ofNat n.toNat, ?_⟩
  have : (UInt8.ofNat n.toNat).toNat = n.toNat % 256 := by simp
  rw [this]
  omega
theorem inv_u8 {e : TypeId} (he : P.underlying e = some (.int .u8)) : ∀ n cs x, DataW.trod enc P W base spare held n e cs = some x → ∃ a, cs = one byt a ∧ True := by
  intro n cs x h
  obtain ⟨m, rfl, _, hw⟩ := DataW.trod_int he h
  obtain ⟨b, rfl⟩ := u8_of_wf hw
  exact ⟨b, rfl, trivial⟩
theorem inv_int {k : IntKind} {e : TypeId} (he : P.underlying e = some (.int k)) : ∀ n cs x, DataW.trod enc P W base spare held n e cs = some x → ∃ a, cs = one (Value.int k) a ∧ (Lit.int k a).wf = true := by
  intro n cs x h
  obtain ⟨m, rfl, _, hw⟩ := DataW.trod_int he h
  exact ⟨m, rfl, hw⟩
/-- A struct's cells, each field's by its own reading. -/
theorem inv_struct {t fuel : Nat} {fs : Array Field} {cs : List Value} {x : DataW H × List MemPlace} (ht : P.underlying t = some (.struct fs)) (h : DataW.trod enc P W base spare held fuel t cs = some x) :
    ∃ m, cs.length = P.cellsOf t ∧ ∀ (i : Nat) (f : Field), fs[i]? = some f → ∃ y, DataW.trod enc P W base spare held m f.type ((cs.drop f.offset).take (P.cellsOf f.type)) = some y := by
  obtain ⟨xs, n, _, _, hlen, hxl, hf⟩ := DataW.trod_struct ht h
  refine ⟨n, hlen, fun i f hi => ?_⟩
  have hlt : i < fs.size := (Array.getElem?_eq_some_iff.1 hi).1
  exact ⟨xs[i]'(by omega), by rw [hf i f hi, List.getElem?_eq_getElem (by omega)]⟩
end
/-! ### slices of slices of bytes -/
section
variable {H : Type} {enc : TypeId × Value → H} {P : Program} {W : World} {base : Nat} {spare : Nat → Bool} {held : Bool}
def fst1 (a : Value × List UInt8) : List Value := [a.1]
instance : Inhabited (Value × List UInt8) := ⟨(.bool false, [])⟩
theorem inv_slice {e be : TypeId} (he : P.underlying e = some (.slice be)) (hb : P.underlying be = some (.int .u8)) (hc : P.cellsOf be = 1) :
    ∀ n cs x, DataW.trod enc P W base spare held n e cs = some x → ∃ a : Value × List UInt8, cs = fst1 a ∧ Sl W a.1 a.2 := by
  intro n cs x h
  obtain ⟨A, c, l, rfl, h1, h2, _, h3, _⟩ := open_sl (sz := 1) (one byt) _ he hc (fun _ => rfl) (inv_u8 hb) h
  rw [flat_one] at h3
  exact ⟨(.slice A l.length c, l), rfl, A, c, rfl, h1, h2, h3⟩
theorem rowrd_of {A : Option Addr} {l : List (Value × List UInt8)} (h : Rd W A (l.flatMap fst1)) (hq : ∀ a ∈ l, Sl W a.1 a.2) : RowRd W A (l.map (·.2)) := by
  refine ⟨l.map (·.1), ?_, by simp, fun i x hx => ?_⟩
  · have e : ∀ l : List (Value × List UInt8), l.flatMap fst1 = l.map (·.1) := fun l => by
      induction l with
      | nil => rfl
      | cons x l ih => rw [List.flatMap_cons, ih]; rfl
    rwa [e] at h
  · rw [List.getElem?_map] at hx
    obtain ⟨a, ha, rfl⟩ := Option.map_eq_some_iff.1 hx
    exact ⟨a.1, by rw [List.getElem?_map, ha]; rfl, hq a (List.mem_of_getElem? ha)⟩
theorem open_rows {t e be : TypeId} (ht : P.underlying t = some (.slice e)) (hce : P.cellsOf e = 1) (he : P.underlying e = some (.slice be)) (hb : P.underlying be = some (.int .u8)) (hc : P.cellsOf be = 1)
    {r : Reach} {b0 : Nat} {v : Value} {d : DataW H} {p : List MemPlace} (hval : Value.okWide P W r b0 t v) (h : DataW.Trod enc P W base spare held t v d p) :
    ∃ (A : Option Addr) (c : Nat) (ls : List (List UInt8)), v = .slice A ls.length c ∧ ls.length ≤ c ∧ c ≤ maxLen ∧ RowRd W A ls ∧ (d = .nil ∧ ls = [] ∨ ∃ el sp, d = .slice el sp ∧ el.length = ls.length ∧ sp.length ≤ c) := by
  obtain ⟨A, c, l, hv, h1, h2, _, h3, h4, h5⟩ := open_arg (sz := 1) fst1 _ ht hce (fun _ => rfl) (inv_slice he hb hc) hval h
  refine ⟨A, c, l.map (·.2), by rw [List.length_map]; exact hv, by rw [List.length_map]; exact h1, h2, rowrd_of h3 h4, ?_⟩
  rcases h5 with ⟨h5, rfl⟩ | ⟨el, sp, h5, h6, h7⟩
  · exact .inl ⟨h5, rfl⟩
  · exact .inr ⟨el, sp, h5, by rw [List.length_map]; exact h6, h7⟩
end
end Go.Cov


/-! In a region whose order is open: behind a call that made memory the condition on the world may be strengthened, so that what reads the new memory is taken first. Over any program. -/
namespace Go.Cov
open Go.RowKit
theorem below_step {a b c : World} (h : Below a.heap.size a b) (k : Below b.heap.size b c) : Below a.heap.size a c := h.trans (k.mono h.size)
section
variable {P : Program} {ops : Array Oper} {Q : Exit → Act → World → Prop} {md : Region.Mode} {S S' : World → Prop}
theorem wpAnyH_weak (hS : ∀ w, S' w → S w) : ∀ (fuel : Nat) (listed : Array Bool) (a : Act) (w : World), wpAnyH P md ops Q S' fuel listed a w → wpAnyH P md ops Q S fuel listed a w
  | 0, _, _, _, h => h
  | fuel + 1, _, _, _, h => ⟨h.1, fun i hi => wpOp_mono (fun a' w' h' => ⟨hS _ h'.1, wpAnyH_weak hS fuel _ a' w' h'.2⟩) (h.2 i hi)⟩
theorem wpAnyH_turn {fuel : Nat} {listed : Array Bool} {a : Act} {w : World} (hS : S w) (h : S w ∧ Below w.heap.size w w → wpAnyH P md ops Q (fun W => S W ∧ Below w.heap.size w W) fuel listed a w) : wpAnyH P md ops Q S fuel listed a w :=
  wpAnyH_weak (fun _ h => h.1) _ _ _ _ (h ⟨hS, Below.refl _ _⟩)
end
theorem newvar_K {K : Act → World → Prop} {a : Act} {W : World} {cs : Array Value} {t : TypeId}
    (h : ∀ wx, Below W.heap.size W wx → (∀ i v, cs[i]? = some v → wx.cell? ⟨W.heap.size, i, none⟩ = some v) → (∀ i, wx.frozen? ⟨W.heap.size, i, none⟩ = false) → W.heap.size < wx.heap.size → K a wx) : K a (W.alloc (.cells cs t)) := by
  refine h _ ((Below.refl _ _).alloc (Nat.le_refl _) _) (fun i v hv => ?_) (fun i => World.frozen?_alloc_new (w := W) cs t i) (by simp)
  rw [cell_of_row (W.alloc (.cells cs t)) W.heap.size i cs t (0, 0) (heap_alloc_new W _)]
  exact hv
theorem newvar_Kd {K : Act → World → Prop} {a : Act} {W : World} {cs : Array Value} {t : TypeId}
    (h : ∀ wx, Below W.drew.heap.size W.drew wx → (∀ i v, cs[i]? = some v → wx.cell? ⟨W.heap.size, i, none⟩ = some v) → (∀ i, wx.frozen? ⟨W.heap.size, i, none⟩ = false) → W.heap.size < wx.heap.size → K a wx) : K a (W.alloc (.cells cs t)).drew := by
  have h0 := (Below.refl W.heap.size W).alloc (Nat.le_refl _) (.cells cs t)
  refine h _ ⟨h0.os, h0.tape, h0.output, h0.size, h0.block⟩ (fun i v hv => ?_) (fun i => World.frozen?_alloc_new (w := W) cs t i) (by simp)
  show (W.alloc (.cells cs t)).cell? _ = _
  rw [cell_of_row (W.alloc (.cells cs t)) W.heap.size i cs t (0, 0) (heap_alloc_new W _)]
  exact hv
theorem set3_cells {w : World} {b : Nat} {x0 x1 x2 : Value} (h0 : w.cell? ⟨b, 0, none⟩ = some x0) (h1 : w.cell? ⟨b, 1, none⟩ = some x1) (h2 : w.cell? ⟨b, 2, none⟩ = some x2) (y0 y1 y2 : Value) :
    (((w.setCell ⟨b, 0, none⟩ y0).setCell ⟨b, 1, none⟩ y1).setCell ⟨b, 2, none⟩ y2).cell? ⟨b, 0, none⟩ = some y0 ∧ (((w.setCell ⟨b, 0, none⟩ y0).setCell ⟨b, 1, none⟩ y1).setCell ⟨b, 2, none⟩ y2).cell? ⟨b, 1, none⟩ = some y1 ∧ (((w.setCell ⟨b, 0, none⟩ y0).setCell ⟨b, 1, none⟩ y1).setCell ⟨b, 2, none⟩ y2).cell? ⟨b, 2, none⟩ = some y2 := by
  refine ⟨?_, ?_, ?_⟩
  · rw [World.cell?_setCell_other _ _ _ _ (by simp), World.cell?_setCell_other _ _ _ _ (by simp)]
    exact World.cell?_setCell_same' _ _ _ (by rw [h0]; rfl)
  · rw [World.cell?_setCell_other _ _ _ _ (by simp)]
    exact World.cell?_setCell_same' _ _ _ (by rw [World.cell?_setCell_other _ _ _ _ (by simp), h1]; rfl)
  · exact World.cell?_setCell_same' _ _ _ (by rw [World.cell?_setCell_other _ _ _ _ (by simp), World.cell?_setCell_other _ _ _ _ (by simp), h2]; rfl)
end Go.Cov


/-! pairs of slices of bytes in a slice; comparing bytes. Over any program. -/
namespace Go.Cov
open Go.RowKit
structure Pr where
  kA : Option Addr
  kc : Nat
  k : List UInt8
  vA : Option Addr
  vc : Nat
  v : List UInt8
deriving Inhabited
def Pr.key (a : Pr) : Value := .slice a.kA a.k.length a.kc
def Pr.val (a : Pr) : Value := .slice a.vA a.v.length a.vc
def Pr.data (a : Pr) : List UInt8 × List UInt8 := (a.k, a.v)
def prEl : El Pr where
  sz := 2
  cells := fun a => [a.key, a.val]
  cons := fun a => [(a.key, a.k), (a.val, a.v)]
  len := fun _ => rfl
  one := fun a u hu => by
    rcases List.mem_cons.1 hu with rfl | hu
    · rfl
    · rw [List.mem_singleton.1 hu]; rfl
  pos := by decide
theorem pr_rd {w : World} {a : Pr} (h : ∀ p ∈ prEl.cons a, Sl w p.1 p.2) : Rd w a.kA (a.k.map byt) ∧ Rd w a.vA (a.v.map byt) := by
  constructor
  · obtain ⟨A, c, he, _, _, hr⟩ := h (a.key, a.k) (by simp [prEl])
    unfold Pr.key at he
    injection he with h1 h2 h3
    rw [h1]; exact hr
  · obtain ⟨A, c, he, _, _, hr⟩ := h (a.val, a.v) (by simp [prEl])
    unfold Pr.val at he
    injection he with h1 h2 h3
    rw [h1]; exact hr
theorem add_zero' (a : Addr) : a.add 0 = a := by simp [Addr.add]
/-- an element of a slice of pairs -/
theorem pr_at {w : World} {A : Option Addr} {xs : List Pr} (h : Els prEl w A xs) (i : Nat) (hi : i < xs.length) :
    ∃ ad, A = some ad ∧ w.cell? (ad.add (i * 2)) = some xs[i].key ∧ w.cell? ⟨(ad.add (i * 2)).block, (ad.add (i * 2)).off + 1, none⟩ = some xs[i].val ∧ Rd w xs[i].kA (xs[i].k.map byt) ∧ Rd w xs[i].vA (xs[i].v.map byt) := by
  obtain ⟨ad, hA, hc, hp⟩ := h.at' i hi
  obtain ⟨h1, h2⟩ := pr_rd hp
  refine ⟨ad, hA, ?_, ?_, h1, h2⟩
  · have := hc 0 xs[i].key rfl
    rwa [add_zero'] at this
  · exact hc 1 xs[i].val rfl
def zs (l : List UInt8) : List Int := l.map fun b => (b.toNat : Int)
theorem zs_bytes (l : List UInt8) : Lib.bytesOf (zs l) = l := by
  unfold Lib.bytesOf zs
  rw [List.map_map]
  conv => rhs; rw [← List.map_id l]
  refine List.map_congr_left fun b _ => ?_
  simp
theorem rd_bytesOf {P : Program} {w : World} {A : Option Addr} {l : List UInt8} (h : Rd w A (l.map byt)) (c : Nat) : (Extern.Bytes.bytesOf (.slice A l.length c)).run P w = .ok (str l) w := by
  cases A with
  | none =>
    have : l = [] := by
      cases l with
      | nil => rfl
      | cons x l => obtain ⟨ad, hA, _⟩ := h 0 (byt x) rfl; cases hA
    subst this
    rfl
  | some ad =>
    have := Lib.run_loadBytesX (P := P) w (zs l) ad .empty (fun j x hj => by
      unfold zs at hj
      rw [List.getElem?_map] at hj
      obtain ⟨b, hb, rfl⟩ := Option.map_eq_some_iff.1 hj
      obtain ⟨ad', he, hc⟩ := h j (byt b) (by rw [List.getElem?_map, hb]; rfl)
      cases he
      exact hc)
    rw [show (zs l).length = l.length by simp [zs], zs_bytes] at this
    show (Extern.Bytes.loadBytes ad l.length .empty).run P w = _
    rw [this]
    simp [str]
theorem run_compare {P : Program} {w : World} {A B : Option Addr} {l m : List UInt8} (h : Rd w A (l.map byt)) (g : Rd w B (m.map byt)) (c d : Nat) :
    (Extern.BytealgCompare.compare #[.slice A l.length c, .slice B m.length d]).run P w = .ok (.int .i64 (Lib.compareBytes l m)) w := by
  change Sem.run P (do pure (goInt (Extern.BytealgCompare.cmp (← Extern.Bytes.bytesOf (.slice A l.length c)) (← Extern.Bytes.bytesOf (.slice B m.length d))))) w = _
  simp only [Sem.run_bind, rd_bytesOf h, rd_bytesOf g, Sem.run_pure, Result.andThen]
  rw [Lib.cmp_eq]
  rfl
theorem cell_up {w w2 : World} {o : Obj} (hb : Below (w.alloc o).heap.size (w.alloc o) w2) {p : Addr} {v : Value} (h : w.cell? p = some v) : w2.cell? p = some v := ((below_step (below_alloc w o) hb).cell (cell_lt h)).trans h
theorem cell_on {w w2 : World} (hb : Below w.heap.size w w2) {p : Addr} {v : Value} (h : w.cell? p = some v) : w2.cell? p = some v := (hb.cell (cell_lt h)).trans h
theorem var_on {w w2 : World} {cs : Array Value} {t : TypeId} (hb : Below (w.alloc (.cells cs t)).heap.size (w.alloc (.cells cs t)) w2) (i : Nat) (v : Value) (h : cs[i]? = some v) : w2.cell? ⟨w.heap.size, i, none⟩ = some v := cell_on hb (box_cell w cs t i v h)
theorem froz_on {w w2 : World} (hb : Below w.heap.size w w2) {b i : Nat} (hz : b < w.heap.size) (h : w.frozen? ⟨b, i, none⟩ = false) : w2.frozen? ⟨b, i, none⟩ = false := (hb.frozen (p := ⟨b, i, none⟩) hz).trans h
end Go.Cov


/-
  Lemmas of this claim's own: slices of entries of a log. Over any program.
-/
namespace Go.Cov
open Go.RowKit Go.ChangeShapes Go.WideShapes Go.Deep
structure En where
  c : Int
  r : Int
  A : Option Addr
  cap : Nat
  op : List UInt8
deriving Inhabited
def En.val (a : En) : Value := .slice a.A a.op.length a.cap
def En.agg (a : En) : Value := .agg #[.int .i64 a.c, .int .i64 a.r, .slice a.A a.op.length a.cap]
abbrev ED := Int × Int × List UInt8
def En.data (a : En) : ED := (a.c, a.r, a.op)
def enEl : El En where
  sz := 3
  cells := fun a => [.int .i64 a.c, .int .i64 a.r, a.val]
  cons := fun a => [(a.val, a.op)]
  len := fun _ => rfl
  one := fun a u hu => by
    rcases List.mem_cons.1 hu with rfl | hu
    · rfl
    · rcases List.mem_cons.1 hu with rfl | hu
      · rfl
      · rw [List.mem_singleton.1 hu]; rfl
  pos := by decide
theorem en_at {w : World} {A : Option Addr} {xs : List En} (h : Els enEl w A xs) (i : Nat) (hi : i < xs.length) :
    ∃ ad, A = some ad ∧ w.cell? (ad.add (i * 3)) = some (.int .i64 xs[i].c) ∧ w.cell? ⟨(ad.add (i * 3)).block, (ad.add (i * 3)).off + 1, none⟩ = some (.int .i64 xs[i].r) ∧ w.cell? ⟨(ad.add (i * 3)).block, (ad.add (i * 3)).off + 2, none⟩ = some (.slice xs[i].A xs[i].op.length xs[i].cap) ∧ Rd w xs[i].A (xs[i].op.map byt) := by
  obtain ⟨ad, hA, hc, hp⟩ := h.at' i hi
  refine ⟨ad, hA, ?_, hc 1 _ rfl, hc 2 _ rfl, ?_⟩
  · have := hc 0 _ rfl
    rwa [add_zero'] at this
  · obtain ⟨A', c, he, _, _, hr⟩ := hp (xs[i].val, xs[i].op) (by simp [enEl])
    unfold En.val at he
    injection he with h1 h2 h3
    rw [h1]; exact hr
theorem rd_three {w : World} {b : Nat} {x y z : Value} (h0 : w.cell? ⟨b, 0, none⟩ = some x) (h1 : w.cell? ⟨b, 1, none⟩ = some y) (h2 : w.cell? ⟨b, 2, none⟩ = some z) : Rd w (some ⟨b, 0, none⟩) [x, y, z] := by
  intro j u hj
  refine ⟨_, rfl, ?_⟩
  rw [add_none]
  rcases j with _ | _ | _ | j
  · cases hj; exact h0
  · cases hj; exact h1
  · cases hj; exact h2
  · simp at hj
/-- a variable of three cells, and of two -/
def Var3 (w : World) (b : Nat) (x y z : Value) : Prop := w.cell? ⟨b, 0, none⟩ = some x ∧ w.cell? ⟨b, 1, none⟩ = some y ∧ w.cell? ⟨b, 2, none⟩ = some z ∧ w.frozen? ⟨b, 0, none⟩ = false ∧ w.frozen? ⟨b, 1, none⟩ = false ∧ w.frozen? ⟨b, 2, none⟩ = false ∧ b < w.heap.size
def Var2 (w : World) (b : Nat) (x y : Value) : Prop := w.cell? ⟨b, 0, none⟩ = some x ∧ w.cell? ⟨b, 1, none⟩ = some y ∧ w.frozen? ⟨b, 0, none⟩ = false ∧ w.frozen? ⟨b, 1, none⟩ = false ∧ b < w.heap.size
theorem Var3.new (w : World) (x y z : Value) (t : TypeId) : Var3 (w.alloc (.cells #[x, y, z] t)) w.heap.size x y z :=
  ⟨box_cell w #[x, y, z] t 0 _ rfl, box_cell w #[x, y, z] t 1 _ rfl, box_cell w #[x, y, z] t 2 _ rfl, World.frozen?_alloc_new (w := w) _ t 0, World.frozen?_alloc_new (w := w) _ t 1, World.frozen?_alloc_new (w := w) _ t 2, by simp⟩
theorem Var2.new (w : World) (x y : Value) (t : TypeId) : Var2 (w.alloc (.cells #[x, y] t)) w.heap.size x y :=
  ⟨box_cell w #[x, y] t 0 _ rfl, box_cell w #[x, y] t 1 _ rfl, World.frozen?_alloc_new (w := w) _ t 0, World.frozen?_alloc_new (w := w) _ t 1, by simp⟩
theorem Var3.on {w w' : World} {b : Nat} {x y z : Value} (h : Var3 w b x y z) (hb : Below w.heap.size w w') : Var3 w' b x y z := by
  obtain ⟨h0, h1, h2, f0, f1, f2, hz⟩ := h
  exact ⟨cell_on hb h0, cell_on hb h1, cell_on hb h2, froz_on hb hz f0, froz_on hb hz f1, froz_on hb hz f2, Nat.lt_of_lt_of_le hz hb.size⟩
theorem Var2.on {w w' : World} {b : Nat} {x y : Value} (h : Var2 w b x y) (hb : Below w.heap.size w w') : Var2 w' b x y := by
  obtain ⟨h0, h1, f0, f1, hz⟩ := h
  exact ⟨cell_on hb h0, cell_on hb h1, froz_on hb hz f0, froz_on hb hz f1, Nat.lt_of_lt_of_le hz hb.size⟩
theorem set2_cells {w : World} {b : Nat} {x0 x1 : Value} (h0 : w.cell? ⟨b, 0, none⟩ = some x0) (h1 : w.cell? ⟨b, 1, none⟩ = some x1) (y0 y1 : Value) :
    ((w.setCell ⟨b, 0, none⟩ y0).setCell ⟨b, 1, none⟩ y1).cell? ⟨b, 0, none⟩ = some y0 ∧ ((w.setCell ⟨b, 0, none⟩ y0).setCell ⟨b, 1, none⟩ y1).cell? ⟨b, 1, none⟩ = some y1 := by
  refine ⟨?_, ?_⟩
  · rw [World.cell?_setCell_other _ _ _ _ (by simp)]
    exact World.cell?_setCell_same' _ _ _ (by rw [h0]; rfl)
  · exact World.cell?_setCell_same' _ _ _ (by rw [World.cell?_setCell_other _ _ _ _ (by simp), h1]; rfl)
section
variable {H : Type} {enc : TypeId × Value → H} {P : Program} {W : World} {base : Nat} {spare : Nat → Bool} {held : Bool}
theorem inv_entry {t be : TypeId} {f0 f1 f2 : Field} (ht : P.underlying t = some (.struct #[f0, f1, f2])) (hct : P.cellsOf t = 3) (ho : f0.offset = 0 ∧ f1.offset = 1 ∧ f2.offset = 2) (h0 : P.underlying f0.type = some (.int .i64)) (h1 : P.underlying f1.type = some (.int .i64)) (h2 : P.underlying f2.type = some (.slice be))
    (hc : P.cellsOf f0.type = 1 ∧ P.cellsOf f1.type = 1 ∧ P.cellsOf f2.type = 1) (hb : P.underlying be = some (.int .u8)) (hcb : P.cellsOf be = 1) :
    ∀ n cs x, DataW.trod enc P W base spare held n t cs = some x → ∃ a : En, cs = enEl.cells a ∧ ((∀ p ∈ enEl.cons a, Sl W p.1 p.2) ∧ (Lit.int .i64 a.c).wf = true ∧ (Lit.int .i64 a.r).wf = true) := by
  intro n cs x h
  obtain ⟨m, hl, hf⟩ := inv_struct ht h
  rw [hct] at hl
  obtain ⟨y0, g0⟩ := hf 0 f0 rfl
  obtain ⟨y1, g1⟩ := hf 1 f1 rfl
  obtain ⟨y2, g2⟩ := hf 2 f2 rfl
  match cs, hl with
  | [u, v, z], _ =>
    rw [ho.1, hc.1] at g0
    rw [ho.2.1, hc.2.1] at g1
    rw [ho.2.2, hc.2.2] at g2
    obtain ⟨a, e0, s0⟩ := inv_int h0 _ _ _ g0
    obtain ⟨b, e1, s1⟩ := inv_int h1 _ _ _ g1
    obtain ⟨d, e2, s2⟩ := inv_slice h2 hb hcb _ _ _ g2
    have e0 : u = .int .i64 a := by simpa [one] using e0
    have e1 : v = .int .i64 b := by simpa [one] using e1
    have e2 : z = d.1 := by simpa [fst1] using e2
    obtain ⟨A, c, hd, r0⟩ := s2
    refine ⟨⟨a, b, A, c, d.2⟩, ?_, ?_, s0, s1⟩
    · rw [e0, e1, e2, hd]; rfl
    · intro p hp
      rw [List.mem_singleton.1 hp]
      exact ⟨A, c, rfl, r0⟩
/-- an entry as a parameter -/
theorem open_entry {t be : TypeId} {f0 f1 f2 : Field} (ht : P.underlying t = some (.struct #[f0, f1, f2])) (hct : P.cellsOf t = 3) (ho : f0.offset = 0 ∧ f1.offset = 1 ∧ f2.offset = 2) (h0 : P.underlying f0.type = some (.int .i64)) (h1 : P.underlying f1.type = some (.int .i64)) (h2 : P.underlying f2.type = some (.slice be))
    (hc : P.cellsOf f0.type = 1 ∧ P.cellsOf f1.type = 1 ∧ P.cellsOf f2.type = 1) (hb : P.underlying be = some (.int .u8)) (hcb : P.cellsOf be = 1) {r : Reach} {b0 : Nat} {v : Value} {d : DataW H} {p : List MemPlace} (hval : Value.okWide P W r b0 t v) (h : DataW.Trod enc P W base spare held t v d p) :
    ∃ a : En, v = a.agg ∧ Sl W a.val a.op ∧ (Lit.int .i64 a.c).wf = true ∧ (Lit.int .i64 a.r).wf = true := by
  obtain ⟨cs, rfl, hcs⟩ := okWide_struct ht hval
  obtain ⟨fuel, hf⟩ := h
  obtain ⟨a, ha, hp, w0, w1⟩ := inv_entry ht hct ho h0 h1 h2 hc hb hcb _ _ _ hf
  refine ⟨a, ?_, hp (a.val, a.op) (by simp [enEl]), w0, w1⟩
  have : cs.toList = enEl.cells a := by simpa [Value.cells] using ha
  have : cs = #[.int .i64 a.c, .int .i64 a.r, a.val] := by rw [← Array.toArray_toList (xs := cs), this]; rfl
  rw [this]; rfl
/-- a log as a parameter -/
theorem open_log {tl ts te be : TypeId} {g0 g1 f0 f1 f2 : Field} (hl : P.underlying tl = some (.struct #[g0, g1])) (hcl : P.cellsOf tl = 2) (hgo : g0.offset = 0 ∧ g1.offset = 1) (hg0 : P.underlying g0.type = some (.int .i64)) (hg1 : g1.type = ts) (hts : P.underlying ts = some (.slice te)) (hgc : P.cellsOf g0.type = 1 ∧ P.cellsOf g1.type = 1)
    (ht : P.underlying te = some (.struct #[f0, f1, f2])) (hct : P.cellsOf te = 3) (ho : f0.offset = 0 ∧ f1.offset = 1 ∧ f2.offset = 2) (h0 : P.underlying f0.type = some (.int .i64)) (h1 : P.underlying f1.type = some (.int .i64)) (h2 : P.underlying f2.type = some (.slice be))
    (hc : P.cellsOf f0.type = 1 ∧ P.cellsOf f1.type = 1 ∧ P.cellsOf f2.type = 1) (hb : P.underlying be = some (.int .u8)) (hcb : P.cellsOf be = 1) {r : Reach} {b0 : Nat} {v : Value} {d : DataW H} {p : List MemPlace} (hval : Value.okWide P W r b0 tl v) (h : DataW.Trod enc P W base spare held tl v d p) :
    ∃ (s : Int) (A : Option Addr) (c : Nat) (xs : List En), v = .agg #[.int .i64 s, .slice A xs.length c] ∧ (Lit.int .i64 s).wf = true ∧ xs.length ≤ c ∧ c ≤ maxLen ∧ Els enEl W A xs := by
  obtain ⟨cs, rfl, hcs⟩ := okWide_struct hl hval
  obtain ⟨fuel, hf⟩ := h
  obtain ⟨m, hlen, hf⟩ := inv_struct hl hf
  rw [hcl] at hlen
  obtain ⟨y0, k0⟩ := hf 0 g0 rfl
  obtain ⟨y1, k1⟩ := hf 1 g1 rfl
  rw [show (Value.agg cs).cells.toList = cs.toList from rfl] at hlen k0 k1
  obtain ⟨u, v, huv⟩ : ∃ u v, cs.toList = [u, v] := by
    match h : cs.toList, hlen with
    | [u, v], _ => exact ⟨u, v, rfl⟩
  rw [huv] at k0 k1
  rw [hgo.1, hgc.1] at k0
  rw [hgo.2, hgc.2] at k1
  subst hg1
  obtain ⟨s, e0, s0⟩ := inv_int hg0 _ _ _ k0
  obtain ⟨A, c, xs, e1, h3, h4, _, h5, h6, _⟩ := open_sl (sz := 3) enEl.cells _ hts hct enEl.len (inv_entry ht hct ho h0 h1 h2 hc hb hcb) k1
  have e0 : u = .int .i64 s := by simpa [one] using e0
  have e1 : v = .slice A xs.length c := by simpa using e1
  refine ⟨s, A, c, xs, ?_, s0, h3, h4, h5, fun a ha => (h6 a ha).1⟩
  have : cs = #[u, v] := by rw [← Array.toArray_toList (xs := cs), huv]
  rw [this, e0, e1]
end
/-- 'append' of some to a slice of anybody's that is full -/
theorem oper_app_full {P : Program} {w : World} {ops : Array Oper} {o : Oper} {a : Act} {K : Act → World → Prop} {Q : Exit → Act → World → Prop} (hw : Region.wanted o (yielded ops a.tmps) = true) (s x : Operand) (t : TypeId)
    (ho : o.op = .call { callee := .builtin .append, args := #[s, x], argTypes := #[t, t] })
    (e : TypeId) {z : Value} {size bytes : Nat} (ht : P.underlying t = some (.slice e)) (hinfo : (P.info? e).map (fun i => (i.zero, i.size, i.bytes)) = some (some z, size, bytes))
    (hzs : z.cells.size = size) (hsz : 0 < size)
    (A : Option Addr) (n : Nat) (olds : List Value) (hs : a.eval s = .slice A n n) (hlo : olds.length = n * size) (hro : Rd w A olds)
    (B : Addr) (m c : Nat) (news : List Value) (hx : a.eval x = .slice (some B) m c) (hm : 0 < m) (hl : news.length = m * size) (hr : Rd w (some B) news) (h1 : ∀ u ∈ news, u.oneCell' = true) (hA0 : A = none → n = 0)
    (h63 : (n + m) * bytes ≤ 140737488355328) (h64 : n + m ≤ 140737488355328)
    (h : ∀ v' w', w'.ownsRow w.heap.size e size v' (n + m) (olds ++ news) → w.grownBy w' none → K (a.put o.dst v') w') :
    if Region.wanted o (yielded ops a.tmps) = true then Oper.wp P o a w K Q else K (a.put o.dst undef) w := by
  obtain ⟨i, hi, hz0, hz1, hz2⟩ := info_parts hinfo
  rw [if_pos hw]
  have hcells : ∀ j u, news[j]? = some u → w.cell? (B.add j) = some u := by
    intro j u hj
    obtain ⟨ad', he, hc⟩ := hr j u hj
    cases he
    exact hc
  cases A with
  | none =>
    obtain rfl : n = 0 := hA0 rfl
    have hon : olds = [] := List.length_eq_zero_iff.1 (by rw [hlo]; simp)
    subst hon
    obtain ⟨v', w', hrun, h2, h3, _⟩ := run_append_own (P := P) w w.heap.size t o.type e i z size bytes ht hi hz0 hz1 hz2 hzs hsz (.slice none 0 0) 0 [] (World.ownsRow_nil w _ e size) B m c news hl hcells h1 (by simp only [maxLen]; omega) h63 (Nat.le_refl _)
    unfold Oper.wp execOp
    simp only [ho, resolve, invoke, builtin, Sem.run_bind, Sem.run_pure, Result.andThen_ok, List.map_toArray, List.map_cons, List.map_nil, hs, hx, hrun]
    exact h v' w' h2 h3
  | some ad =>
    have hoc : ∀ j u, olds[j]? = some u → w.cell? (ad.add j) = some u := by
      intro j u hj
      obtain ⟨ad', he, hc⟩ := hro j u hj
      cases he
      exact hc
    obtain ⟨v', w', hrun, h2, h3⟩ := run_append_arg_grows (P := P) w t o.type e i z size bytes ht hi hz0 hz1 hz2 hzs hsz ad n n olds hlo hoc B m c news hl hcells (by omega) (by simp only [maxLen]; omega) h63
    unfold Oper.wp execOp
    simp only [ho, resolve, invoke, builtin, Sem.run_bind, Sem.run_pure, Result.andThen_ok, List.map_toArray, List.map_cons, List.map_nil, hs, hx, hrun]
    exact h v' w' h2 h3
end Go.Cov


/-
  Lemmas of this claim's own: rows of cells that may be written, and worlds in which two blocks have turned. Over any program.
-/
namespace Go.Cov
open Go.RowKit
/-- cells that stand in one block, that may be written -/
def Row (w : World) (b : Nat) (vs : List Value) : Prop := b < w.heap.size ∧ ∀ i v, vs[i]? = some v → w.cell? ⟨b, i, none⟩ = some v ∧ w.frozen? ⟨b, i, none⟩ = false
theorem Row.new (w : World) (vs : List Value) (t : TypeId) : Row (w.alloc (.cells vs.toArray t)) w.heap.size vs :=
  ⟨by simp, fun i v hi => ⟨box_cell w vs.toArray t i v (by simpa using hi), World.frozen?_alloc_new (w := w) _ t i⟩⟩
theorem Row.keep {w w' : World} {b : Nat} {vs : List Value} (h : Row w b vs) (hk : w'.heap[b]? = w.heap[b]?) (hs : w.heap.size ≤ w'.heap.size) : Row w' b vs :=
  ⟨Nat.lt_of_lt_of_le h.1 hs, fun i v hi => ⟨(World.cell?_of_block (a := ⟨b, i, none⟩) hk).trans (h.2 i v hi).1, (World.frozen?_of_block (a := ⟨b, i, none⟩) hk).trans (h.2 i v hi).2⟩⟩
theorem Row.below {w w' : World} {b : Nat} {vs : List Value} (h : Row w b vs) (hb : Below w.heap.size w w') : Row w' b vs := h.keep (hb.block b h.1) hb.size
theorem Row.set {w : World} {b : Nat} {vs : List Value} (h : Row w b vs) (i : Nat) (hi : i < vs.length) (x : Value) : Row (w.setCell ⟨b, i, none⟩ x) b (vs.set i x) := by
  refine ⟨by simpa using h.1, fun j v hj => ⟨?_, by rw [World.frozen?_setCell]; by_cases hji : j = i; subst hji; exact (h.2 j _ (List.getElem?_eq_getElem hi)).2; exact (h.2 j v (by rw [List.getElem?_set_ne (Ne.symm hji)] at hj; exact hj)).2⟩⟩
  by_cases hji : j = i
  · subst hji
    rw [List.getElem?_set_self hi] at hj
    cases hj
    exact World.cell?_setCell_same' _ _ _ (by rw [(h.2 j _ (List.getElem?_eq_getElem hi)).1]; rfl)
  · rw [List.getElem?_set_ne (Ne.symm hji)] at hj
    rw [World.cell?_setCell_other _ _ _ _ (by intro e; injection e with _ e; exact hji e.symm)]
    exact (h.2 j v hj).1
/-- only the blocks b and c, and new ones, have turned -/
structure Gro (b c : Nat) (w w' : World) : Prop where
  os : w'.os = w.os
  tape : w'.tape = w.tape
  output : w'.output = w.output
  size : w.heap.size ≤ w'.heap.size
  block : ∀ k, k < w.heap.size → k ≠ b → k ≠ c → w'.heap[k]? = w.heap[k]?
theorem Gro.refl (b c : Nat) (w : World) : Gro b c w w := ⟨rfl, rfl, rfl, Nat.le_refl _, fun _ _ _ _ => rfl⟩
theorem Gro.trans {b c : Nat} {w w1 w2 : World} (h : Gro b c w w1) (g : Gro b c w1 w2) : Gro b c w w2 :=
  ⟨g.os.trans h.os, g.tape.trans h.tape, g.output.trans h.output, Nat.le_trans h.size g.size, fun k hk h1 h2 => (g.block k (Nat.lt_of_lt_of_le hk h.size) h1 h2).trans (h.block k hk h1 h2)⟩
theorem Gro.of_below {b c : Nat} {w w' : World} (h : Below w.heap.size w w') : Gro b c w w' := ⟨h.os, h.tape, h.output, h.size, fun k hk _ _ => h.block k hk⟩
theorem Gro.of_grown {b c : Nat} {w w' : World} (h : w.grownBy w' (some c)) : Gro b c w w' := ⟨h.os, h.tape, h.output, h.size, fun k hk _ h2 => h.block k hk (fun e => h2 (Option.some.inj e))⟩
theorem Gro.set (b c i : Nat) (w : World) (x : Value) : Gro b c w (w.setCell ⟨b, i, none⟩ x) := ⟨rfl, rfl, rfl, by simp, fun k _ h1 _ => by
  simp only [World.setCell, Array.getElem?_modify]
  rw [if_neg (Ne.symm h1)]⟩
theorem Gro.below {b c base : Nat} {w w' : World} (h : Gro b c w w') (hb : base ≤ b) (hc : base ≤ c) (hs : base ≤ w.heap.size) : Below base w w' :=
  ⟨h.os, h.tape, h.output, h.size, fun k hk => h.block k (Nat.lt_of_lt_of_le hk hs) (by omega) (by omega)⟩
theorem Gro.rd {b c : Nat} {w w' : World} (h : Gro b c w w') {A : Option Addr} {xs : List Value} (hr : Rd w A xs) (hA : ∀ ad, A = some ad → ad.block ≠ b ∧ ad.block ≠ c) : Rd w' A xs := fun j u hj => by
  obtain ⟨ad, hA', hc⟩ := hr j u hj
  refine ⟨ad, hA', ?_⟩
  have hl := cell_lt hc
  have h1 := hA ad hA'
  rw [World.cell?_of_block (w := w) (h.block _ hl (by rw [block_add]; exact h1.1) (by rw [block_add]; exact h1.2))]
  exact hc
theorem Row.drew {w : World} {b : Nat} {vs : List Value} (h : Row w b vs) : Row w.drew b vs := h
theorem Row.range {w : World} {b : Nat} {vs : List Value} (h : Row w b vs) : w.rangeAt b 0 vs := fun j v hv => by rw [Nat.zero_add]; exact (h.2 j v hv).1
theorem Row.part {w : World} {b : Nat} {vs : List Value} (h : Row w b vs) (o : Nat) (us : List Value) (hu : ∀ j v, us[j]? = some v → vs[o + j]? = some v) : w.rangeAt b o us := fun j v hv => (h.2 (o + j) v (hu j v hv)).1
theorem Row.there {w : World} {b : Nat} {vs : List Value} (h : Row w b vs) : w.there b 0 vs.length := fun j hj => by
  rw [Nat.zero_add]
  obtain ⟨h1, h2⟩ := h.2 j _ (List.getElem?_eq_getElem hj)
  exact ⟨by rw [h1]; rfl, h2⟩
theorem heap_setCells {b k : Nat} (hk : k ≠ b) : ∀ (vs : List Value) (o : Nat) (w : World), (w.setCells b o vs).heap[k]? = w.heap[k]?
  | [], _, _ => rfl
  | v :: vs, o, w => by
    rw [World.setCells, heap_setCells hk vs]
    simp only [World.setCell, Array.getElem?_modify]
    rw [if_neg (Ne.symm hk)]
theorem setCells_rest (b : Nat) : ∀ (vs : List Value) (o : Nat) (w : World), (w.setCells b o vs).os = w.os ∧ (w.setCells b o vs).tape = w.tape ∧ (w.setCells b o vs).output = w.output ∧ (w.setCells b o vs).heap.size = w.heap.size
  | [], _, _ => ⟨rfl, rfl, rfl, rfl⟩
  | v :: vs, o, w => by
    obtain ⟨h1, h2, h3, h4⟩ := setCells_rest b vs (o + 1) (w.setCell ⟨b, o, none⟩ v)
    exact ⟨h1, h2, h3, h4.trans (by simp)⟩
theorem Row.setCells {w : World} {b : Nat} {vs us : List Value} (h : Row w b vs) (hl : us.length = vs.length) : Row (w.setCells b 0 us) b us := by
  have ht := h.there
  rw [← hl] at ht
  refine ⟨by rw [(setCells_rest b us 0 w).2.2.2]; exact h.1, fun i v hi => ⟨?_, ?_⟩⟩
  · have := World.rangeAt_setCells_same w b 0 us ht i v hi
    rwa [Nat.zero_add] at this
  · have hlt : i < us.length := (List.getElem?_eq_some_iff.1 hi).1
    have := (ht i hlt).2
    rw [Nat.zero_add] at this
    rw [World.frozen?_setCells]; exact this
theorem Gro.setCells (b c : Nat) (w : World) (us : List Value) : Gro b c w (w.setCells b 0 us) := by
  obtain ⟨h1, h2, h3, h4⟩ := setCells_rest b us 0 w
  exact ⟨h1, h2, h3, Nat.le_of_eq h4.symm, fun k _ hb _ => heap_setCells hb us 0 w⟩
theorem below_setCells {n b : Nat} {w W : World} (h : Below n w W) (hb : n ≤ b) (us : List Value) : Below n w (W.setCells b 0 us) := by
  obtain ⟨h1, h2, h3, h4⟩ := setCells_rest b us 0 W
  exact ⟨h1.trans h.os, h2.trans h.tape, h3.trans h.output, by rw [h4]; exact h.size, fun k hk => (heap_setCells (by omega) us 0 W).trans (h.block k hk)⟩
theorem oper_store_mid {P : Program} {w : World} {ops : Array Oper} {o : Oper} {a : Act} {K : Act → World → Prop} {Q : Exit → Act → World → Prop} (hw : Region.wanted o (yielded ops a.tmps) = true) (ty : TypeId) (x y : Operand) (ho : o.op = .store ty x y)
    (b : Nat) (us vs : List Value) (hx : a.eval x = .pointer (some ⟨b, 0, none⟩)) (hy : a.eval y = .agg us.toArray) (hR : Row w b vs) (hl : us.length = vs.length)
    (hi : (P.info? ty).map (·.size) = some us.length) (h1 : ∀ u ∈ us, u.oneCell' = true) (h : K (a.put o.dst undef) (w.setCells b 0 us)) :
    if Region.wanted o (yielded ops a.tmps) = true then Oper.wp P o a w K Q else K (a.put o.dst undef) w := by
  rw [if_pos hw]
  exact wp_store_mid ty x y ho b 0 us.toArray hx hy (by have := hR.there; rw [← hl] at this; simpa using this) (by simpa using hi) (all_oneCell_toArray h1) (by simpa using h)
theorem results_cell1 {P : Program} {fn : Func} {k : Nat} {t : TypeId} (hr : fn.results = #[.cell k t]) {ts : Array Value} {b : Nat} (ht : ts.getD k undef = .pointer (some ⟨b, 0, none⟩)) {w : World} {cs : List Value} (R : Row w b cs) {d : TypeDesc} (hu : P.underlying t = some d) (hd : d.isRow = true) (hi : (P.info? t).map (·.size) = some cs.length) :
    (results fn ts).run P w = .ok (.agg cs.toArray) w := by
  have hl := run_loadVar_mid (P := P) w b 0 t cs d R.range hu hd hi
  have ht' : ts[k]?.getD undef = .pointer (some ⟨b, 0, none⟩) := by rw [← ht]; simp
  simp [results, hr, ht', asAddr, hl]
/-- a row made and written in a world that grew from another one -/
structure RowB (w0 w : World) (b : Nat) (vs : List Value) : Prop where
  row : Row w b vs
  below : Below w0.heap.size w0 w
  at' : w0.heap.size ≤ b
theorem RowB.new (w : World) (vs : List Value) (t : TypeId) : RowB w (w.alloc (.cells vs.toArray t)) w.heap.size vs := ⟨Row.new w vs t, below_alloc w _, Nat.le_refl _⟩
theorem RowB.set {w0 w : World} {b : Nat} {vs : List Value} (h : RowB w0 w b vs) (i : Nat) (hi : i < vs.length) (x : Value) : RowB w0 (w.setCell ⟨b, i, none⟩ x) b (vs.set i x) :=
  ⟨h.row.set i hi x, h.below.setCell (p := ⟨b, i, none⟩) h.at' x, h.at'⟩
end Go.Cov


/-
  Lemmas of this claim's own: a string's bytes as a slice. Over any program.
-/
namespace Go.Cov
open Go.RowKit
/-- the world behind '[]byte(s)' -/
def sbW (e : TypeId) (w : World) (l : List UInt8) : World := w.drew.alloc (.cells (bytesRow (str l) (grownCap w (str l).size 0 e)) e ((bytesRow (str l) (grownCap w (str l).size 0 e)).size, (bytesRow (str l) (grownCap w (str l).size 0 e)).size + 1))
def sbCap (e : TypeId) (w : World) (l : List UInt8) : Nat := grownCap w (str l).size 0 e
theorem str_size (l : List UInt8) : (str l).size = l.length := by simp [str, ByteArray.size]
theorem conv_sb {P : Program} {src dst e : TypeId} (hs : P.underlying src = some .string) (hd : P.underlying dst = some (.slice e)) (he : P.underlying e = some (.int .u8)) (w : World) (l : List UInt8) :
    (convert src dst (.string (str l))).run P w = .ok (.slice (some ⟨w.heap.size, 0, none⟩) l.length (sbCap e w l)) (sbW e w l) := by
  rw [run_bytes_of_string w src dst e (str l) hs hd he, str_size]
  rfl
theorem sbW_below (e : TypeId) (w : World) (l : List UInt8) : Below w.heap.size w (sbW e w l) := ((Below.refl _ _).drew).alloc (Nat.le_refl _) _
theorem sbW_size (e : TypeId) (w : World) (l : List UInt8) : (sbW e w l).heap.size = w.heap.size + 1 := Array.size_push ..
theorem sbW_rd (e : TypeId) (w : World) (l : List UInt8) : Rd (sbW e w l) (some ⟨w.heap.size, 0, none⟩) (l.map byt) := by
  have h := rd_boxf w.drew (bytesRow (str l) (grownCap w (str l).size 0 e)) e ((bytesRow (str l) (grownCap w (str l).size 0 e)).size, (bytesRow (str l) (grownCap w (str l).size 0 e)).size + 1)
  intro j u hj
  refine h j u ?_
  have e2 : (bytesRow (str l) (grownCap w (str l).size 0 e)).toList = l.map byt ++ List.replicate (grownCap w (str l).size 0 e - (str l).size) (.int .u8 0) := by
    unfold bytesRow
    rw [Array.toList_append, Array.toList_map, Array.toList_replicate]
    rfl
  rw [e2, List.getElem?_append_left (List.getElem?_eq_some_iff.1 hj).1]
  exact hj
theorem sbCap_ge (e : TypeId) (w : World) (l : List UInt8) : l.length ≤ sbCap e w l := by have := grownCap_ge w (str l).size 0 e; rw [str_size] at this; unfold sbCap; rw [str_size]; exact this
theorem sbCap_le (e : TypeId) (w : World) (l : List UInt8) (h : l.length ≤ maxLen) : sbCap e w l ≤ maxLen := by unfold sbCap; rw [str_size]; exact grownCap_le_maxLen _ _ _ _ h
end Go.Cov


/-
  Lemmas of this claim's own: a reader's cells (bytes, a place, an error). Over any program.
-/
namespace Go.Cov
open Go.RowKit
/-- a reader: its bytes, its place, its error; the bytes lie elsewhere -/
structure Rr (w : World) (b : Nat) (A : Option Addr) (c : Nat) (l : List UInt8) (s : Int × Int) : Prop where
  row : Row w b [.slice A l.length c, .int .i64 s.1, .int .i64 s.2]
  rd : Rd w A (l.map byt)
  off : l ≠ [] → ∀ ad, A = some ad → ad.block ≠ b
  cap : l.length ≤ c
  len : l.length ≤ 140737488351236
section
variable {w w1 : World} {b c : Nat} {A : Option Addr} {l : List UInt8} {s : Int × Int}
theorem Rr.below (h : Rr w b A c l s) (hb : Below w.heap.size w w1) : Rr w1 b A c l s := ⟨h.row.below hb, h.rd.below hb, h.off, h.cap, h.len⟩
theorem rd_off {xs : List UInt8} {w w1 : World} {b : Nat} {A : Option Addr} (hG : Gro b b w w1) (h : Rd w A (xs.map byt)) (ho : xs ≠ [] → ∀ ad, A = some ad → ad.block ≠ b) : Rd w1 A (xs.map byt) := by
  by_cases hx : xs = []
  · subst hx; exact Rd.nil _ _
  · exact hG.rd h (fun ad ha => ⟨ho hx ad ha, ho hx ad ha⟩)
theorem Rr.set1 (h : Rr w b A c l s) (x : Int) : Rr (w.setCell ⟨b, 1, none⟩ (.int .i64 x)) b A c l (x, s.2) :=
  ⟨h.row.set 1 (by simp) _, rd_off (Gro.set b b 1 w _) h.rd h.off, h.off, h.cap, h.len⟩
theorem Rr.set2 (h : Rr w b A c l s) (x : Int) : Rr (w.setCell ⟨b, 2, none⟩ (.int .i64 x)) b A c l (s.1, x) :=
  ⟨h.row.set 2 (by simp) _, rd_off (Gro.set b b 2 w _) h.rd h.off, h.off, h.cap, h.len⟩
theorem Rr.new (h : Rd w A (l.map byt)) (hA : l ≠ [] → ∀ ad, A = some ad → ad.block < w.heap.size) (hc : l.length ≤ c) (hl : l.length ≤ 140737488351236) (t : TypeId) : Rr (w.alloc (.cells #[.slice A l.length c, .int .i64 0, .int .i64 0] t)) w.heap.size A c l (0, 0) :=
  ⟨Row.new w [.slice A l.length c, .int .i64 0, .int .i64 0] t, h.below (below_alloc w _), fun hn ad ha => Nat.ne_of_lt (hA hn ad ha), hc, hl⟩
theorem Gro.own {e : TypeId} {base n size : Nat} {v : Value} {xs : List Value} (hG : Gro b b w w1) (h : w.ownsRow base e size v n xs) (hb : b < base) : w1.ownsRow base e size v n xs := by
  refine ⟨h.1, ?_⟩
  have h0 := fun k (hk : v.ownBlock = some k) => own_lt h hk
  rcases h.2 with h2 | ⟨g, cap, cur, hv, hg, hh, r⟩
  · exact .inl h2
  · have h1 := h0 g (by rw [hv]; rfl)
    exact .inr ⟨g, cap, cur, hv, hg, (hG.block g h1.2 (by omega) (by omega)).trans hh, r⟩
theorem Gro.sl {v : Value} {m : List UInt8} (hG : Gro b b w w1) (h : Sl w v m) (hb : ∀ k, v.ownBlock = some k → k ≠ b) : Sl w1 v m := by
  obtain ⟨A, c, rfl, h1, h2, h3⟩ := h
  exact ⟨A, c, rfl, h1, h2, hG.rd h3 (fun ad ha => ⟨hb _ (by rw [ha]; rfl), hb _ (by rw [ha]; rfl)⟩)⟩
end
end Go.Cov


/-
  Lemmas of this claim's own: a reader's cells beside other rows. Over any program.
-/
namespace Go.Cov
open Go.RowKit
section
variable {w w1 : World} {b c k : Nat} {A : Option Addr} {l : List UInt8} {s : Int × Int} {vs : List Value}
theorem Row.gro (h : Row w k vs) (hG : Gro b b w w1) (hk : k ≠ b) : Row w1 k vs := h.keep (hG.block k h.1 hk hk) hG.size
/-- where the reader's bytes lie -/
theorem Rr.lt (h : Rr w b A c l s) (hl : l ≠ []) : ∀ ad, A = some ad → ad.block < w.heap.size := fun ad ha => by
  cases l with
  | nil => exact absurd rfl hl
  | cons x l =>
    obtain ⟨ad', ha', hc⟩ := h.rd 0 (byt x) rfl
    rw [ha] at ha'
    cases ha'
    have := cell_lt hc
    rwa [block_add] at this
theorem rd_lt {xs : List UInt8} (h : Rd w A (xs.map byt)) (hl : xs ≠ []) : ∀ ad, A = some ad → ad.block < w.heap.size := fun ad ha => by
  cases xs with
  | nil => exact absurd rfl hl
  | cons x xs =>
    obtain ⟨ad', ha', hc⟩ := h 0 (byt x) rfl
    rw [ha] at ha'
    cases ha'
    have := cell_lt hc
    rwa [block_add] at this
/-- kept behind a write to a newer block, or one apart -/
theorem Rr.gro (h : Rr w b A c l s) (hG : Gro k k w w1) (hk : b ≠ k) (hA : l ≠ [] → ∀ ad, A = some ad → ad.block ≠ k) : Rr w1 b A c l s := by
  exact ⟨h.row.gro hG hk, rd_off hG h.rd hA, h.off, h.cap, h.len⟩
theorem Rr.new' (h : Rr w b A c l s) (hG : Gro k k w w1) (hk : b ≠ k) (hA : l ≠ [] → ∀ ad, A = some ad → ad.block < k) : Rr w1 b A c l s := h.gro hG hk (fun hl ad ha => Nat.ne_of_lt (hA hl ad ha))
theorem Gro.step {w2 : World} (h : Gro b b w w1) (hb : Below w.heap.size w1 w2) (hs : w.heap.size ≤ w2.heap.size := by exact Nat.le_refl _) : Gro b b w w2 :=
  ⟨hb.os.trans h.os, hb.tape.trans h.tape, hb.output.trans h.output, hs, fun j hj h1 h2 => (hb.block j hj).trans (h.block j hj h1 h2)⟩
/-- a write to a block that is new -/
theorem Gro.newset (h : Gro b b w w1) (hk : w.heap.size ≤ k) (i : Nat) (x : Value) : Gro b b w (w1.setCell ⟨k, i, none⟩ x) :=
  ⟨h.os, h.tape, h.output, by rw [World.size_setCell]; exact h.size, fun j hj h1 h2 => by
    rw [← h.block j hj h1 h2]
    simp only [World.setCell, Array.getElem?_modify]
    rw [if_neg (by show ¬ (k = j); omega)]⟩
theorem Gro.newgro {w2 : World} (h : Gro b b w w1) (hk : w.heap.size ≤ k) (hG : Gro k k w1 w2) : Gro b b w w2 :=
  ⟨hG.os.trans h.os, hG.tape.trans h.tape, hG.output.trans h.output, Nat.le_trans h.size hG.size, fun j hj h1 h2 => (hG.block j (Nat.lt_of_lt_of_le hj h.size) (by omega) (by omega)).trans (h.block j hj h1 h2)⟩
end
end Go.Cov
namespace Go.Cov
open Go.RowKit
/-- a result's row, a struct's row and a reader, made by a call, one behind the other; X is what else is kept -/
structure Rg (w0 W : World) (res ob rb : Nat) (zs vs : List Value) (A : Option Addr) (c : Nat) (l : List UInt8) (s : Int × Int) (X : World → Prop) : Prop where
  r1 : Row W res zs
  r2 : Row W ob vs
  rr : Rr W rb A c l s
  x : X W
  kx : ∀ k W1 W2, k ≤ rb → Gro k k W1 W2 → rb < W1.heap.size → X W1 → X W2
  ord : w0.heap.size ≤ res ∧ res < ob ∧ ob < rb
  old : l ≠ [] → ∀ ad, A = some ad → ad.block < res
  below : Below w0.heap.size w0 W
section
variable {w0 W W1 : World} {res ob rb c : Nat} {zs vs : List Value} {A : Option Addr} {l : List UInt8} {s s1 : Int × Int} {X : World → Prop}
theorem Rg.next (h : Rg w0 W res ob rb zs vs A c l s X) (hr : Rr W1 rb A c l s1) (hG : Gro rb rb W W1) : Rg w0 W1 res ob rb zs vs A c l s1 X :=
  ⟨h.r1.gro hG (by have := h.ord; omega), h.r2.gro hG (by have := h.ord; omega), hr, h.kx rb _ _ (Nat.le_refl _) hG h.rr.row.1 h.x, h.kx, h.ord, h.old, h.below.trans (hG.below (by have := h.ord; omega) (by have := h.ord; omega) h.below.size)⟩
/-- .. with something new -/
theorem Rg.more (h : Rg w0 W res ob rb zs vs A c l s X) {Y : World → Prop} (hy : Y W) (hk : ∀ k W1 W2, k ≤ rb → Gro k k W1 W2 → rb < W1.heap.size → Y W1 → Y W2) : Rg w0 W res ob rb zs vs A c l s (fun W => X W ∧ Y W) :=
  ⟨h.r1, h.r2, h.rr, ⟨h.x, hy⟩, fun k W1 W2 hk1 hG hs hxy => ⟨h.kx k W1 W2 hk1 hG hs hxy.1, hk k W1 W2 hk1 hG hs hxy.2⟩, h.ord, h.old, h.below⟩
theorem Rg.to (h : Rg w0 W res ob rb zs vs A c l s X) {Y : World → Prop} (hy : Y W) (hk : ∀ k W1 W2, k ≤ rb → Gro k k W1 W2 → rb < W1.heap.size → Y W1 → Y W2) : Rg w0 W res ob rb zs vs A c l s Y :=
  ⟨h.r1, h.r2, h.rr, hy, hk, h.ord, h.old, h.below⟩
theorem Rg.set (h : Rg w0 W res ob rb zs vs A c l s X) (i : Nat) (hi : i < vs.length) (x : Value) : Rg w0 (W.setCell ⟨ob, i, none⟩ x) res ob rb zs (vs.set i x) A c l s X := by
  have ho := h.ord
  have hG := Gro.set ob ob i W x
  exact ⟨h.r1.gro hG (by omega), h.r2.set i hi x, h.rr.new' hG (by omega) (fun hl ad ha => by have := h.old hl ad ha; omega), h.kx ob _ _ (by omega) hG h.rr.row.1 h.x, h.kx, ho, h.old, h.below.setCell (p := ⟨ob, i, none⟩) (by show w0.heap.size ≤ ob; omega) x⟩
theorem Rg.set1 (h : Rg w0 W res ob rb zs vs A c l s X) (i : Nat) (hi : i < zs.length) (x : Value) : Rg w0 (W.setCell ⟨res, i, none⟩ x) res ob rb (zs.set i x) vs A c l s X := by
  have ho := h.ord
  have hG := Gro.set res res i W x
  exact ⟨h.r1.set i hi x, h.r2.gro hG (by omega), h.rr.new' hG (by omega) (fun hl ad ha => h.old hl ad ha), h.kx res _ _ (by omega) hG h.rr.row.1 h.x, h.kx, ho, h.old, h.below.setCell (p := ⟨res, i, none⟩) (by show w0.heap.size ≤ res; omega) x⟩
theorem Rg.gro_ob (h : Rg w0 W res ob rb zs vs A c l s X) (hG : Gro ob ob W W1) {vs1 : List Value} (hr : Row W1 ob vs1) : Rg w0 W1 res ob rb zs vs1 A c l s X := by
  have ho := h.ord
  exact ⟨h.r1.gro hG (by omega), hr, h.rr.new' hG (by omega) (fun hl ad ha => by have := h.old hl ad ha; omega), h.kx ob _ _ (by omega) hG h.rr.row.1 h.x, h.kx, ho, h.old, h.below.trans (hG.below (by omega) (by omega) h.below.size)⟩
/-- what grows behind all that -/
theorem Rg.on (h : Rg w0 W res ob rb zs vs A c l s X) (hb : Below W.heap.size W W1) : Rg w0 W1 res ob rb zs vs A c l s X :=
  ⟨h.r1.below hb, h.r2.below hb, h.rr.below hb, h.kx rb _ _ (Nat.le_refl _) (Gro.of_below hb) h.rr.row.1 h.x, h.kx, h.ord, h.old, below_step h.below hb⟩
theorem Rg.err (h : Rg w0 W res ob rb zs vs A c l s X) (x : Int) : Rg w0 (W.setCell ⟨rb, 2, none⟩ (.int .i64 x)) res ob rb zs vs A c l (s.1, x) X := h.next (h.rr.set2 x) (Gro.set rb rb 2 W _)
theorem Rg.c2 (h : Rg w0 W res ob rb zs vs A c l s X) (i : Nat) (v : Value) (hi : vs[i]? = some v) : W.cell? ⟨ob, i, none⟩ = some v := (h.r2.2 i v hi).1
theorem Rg.f2 (h : Rg w0 W res ob rb zs vs A c l s X) (i : Nat) (v : Value) (hi : vs[i]? = some v) : W.frozen? ⟨ob, i, none⟩ = false := (h.r2.2 i v hi).2
theorem Rg.c1 (h : Rg w0 W res ob rb zs vs A c l s X) (i : Nat) (v : Value) (hi : zs[i]? = some v) : W.cell? ⟨res, i, none⟩ = some v := (h.r1.2 i v hi).1
theorem Rg.f1 (h : Rg w0 W res ob rb zs vs A c l s X) (i : Nat) (v : Value) (hi : zs[i]? = some v) : W.frozen? ⟨res, i, none⟩ = false := (h.r1.2 i v hi).2
theorem keep_own {e : TypeId} {n size : Nat} {v : Value} {xs : List Value} {k : Nat} {W1 W2 : World} (hk : k ≤ rb) (hG : Gro k k W1 W2) (h : W1.ownsRow (rb + 1) e size v n xs) : W2.ownsRow (rb + 1) e size v n xs := hG.own h (by omega)
/-- the elements' slices lie from a block on -/
def NewE {α : Type} (T : El α) (base : Nat) (xs : List α) : Prop := ∀ a ∈ xs, ∀ p ∈ T.cons a, ∀ k, p.1.ownBlock = some k → base ≤ k
theorem keep_els {α : Type} {T : El α} {base : Nat} {e : TypeId} {v : Value} {xs : List α} {k : Nat} {W1 W2 : World} (h : OwnEls T W1 base e v xs) (hn : NewE T base xs) (hG : Gro k k W1 W2) (hk : k < base) : OwnEls T W2 base e v xs :=
  ⟨hG.own h.1 hk, fun a ha p hp => ⟨hG.sl (h.2 a ha p hp).1 (fun j hj => by have := hn a ha p hp j hj; omega), (h.2 a ha p hp).2⟩⟩
end
end Go.Cov
namespace Go.Cov
open Go.RowKit
section
variable {w w1 w2 : World} {b c k : Nat} {row : Option Nat} {vs : List Value} {A : Option Addr} {l : List UInt8} {s : Int × Int}
theorem Gro.lft (h : Gro b b w w1) : Gro b c w w1 := ⟨h.os, h.tape, h.output, h.size, fun k hk h1 _ => h.block k hk h1 h1⟩
theorem Gro.rgt (h : Gro c c w w1) : Gro b c w w1 := ⟨h.os, h.tape, h.output, h.size, fun k hk _ h1 => h.block k hk h1 h1⟩
theorem Gro.grown (h : Gro b c w w1) (hg : w1.grownBy w2 row) (hr : ∀ k, row = some k → w.heap.size ≤ k) : Gro b c w w2 :=
  ⟨hg.os.trans h.os, hg.tape.trans h.tape, hg.output.trans h.output, Nat.le_trans h.size hg.size, fun j hj h1 h2 => (hg.block j (Nat.lt_of_lt_of_le hj h.size) (fun e => by have := hr j e.symm; omega)).trans (h.block j hj h1 h2)⟩
theorem Row.grown (h : Row w k vs) (hg : w.grownBy w1 row) (hk : row ≠ some k) : Row w1 k vs := h.keep (hg.block k h.1 (fun e => hk e.symm)) hg.size
theorem Rr.grown (h : Rr w b A c l s) (hg : w.grownBy w1 row) (hk : row ≠ some b) (hA : l ≠ [] → ∀ ad, A = some ad → row ≠ some ad.block) : Rr w1 b A c l s := by
  refine ⟨h.row.grown hg hk, ?_, h.off, h.cap, h.len⟩
  by_cases hl : l = []
  · subst hl; exact Rd.nil _ _
  · exact fun j u hj => by
      obtain ⟨ad, ha, hc⟩ := h.rd j u hj
      exact ⟨ad, ha, hg.cell hc (fun e => by rw [block_add] at e; exact hA hl ad ha e.symm)⟩
theorem Row.gro2 (h : Row w k vs) (hG : Gro b c w w1) (h1 : k ≠ b) (h2 : k ≠ c) : Row w1 k vs := h.keep (hG.block k h.1 h1 h2) hG.size
theorem Gro.own2 {e : TypeId} {base n size : Nat} {v : Value} {xs : List Value} (hG : Gro b c w w1) (h : w.ownsRow base e size v n xs) (hb : b < base) (hc : c < base) : w1.ownsRow base e size v n xs := by
  refine ⟨h.1, ?_⟩
  have h0 := fun k (hk : v.ownBlock = some k) => own_lt h hk
  rcases h.2 with h2 | ⟨g, cap, cur, hv, hg, hh, r⟩
  · exact .inl h2
  · have h1 := h0 g (by rw [hv]; rfl)
    exact .inr ⟨g, cap, cur, hv, hg, (hG.block g h1.2 (by omega) (by omega)).trans hh, r⟩
theorem own_new {base n size : Nat} {e : TypeId} {v : Value} {xs : List Value} (h : w.ownsRow base e size v n xs) {v1 : Value} {m : Nat} {ys : List Value} {size' : Nat} {e' : TypeId} {base' : Nat} (h1 : w1.ownsRow base' e' size' v1 m ys) (hs : w1.heap.size ≤ base) : v.ownBlock ≠ none → v.ownBlock ≠ v1.ownBlock := by
  intro hn he
  obtain ⟨k, hk⟩ := Option.ne_none_iff_exists'.1 hn
  have h2 := (own_lt h hk).1
  have h3 := (own_lt h1 (he ▸ hk)).2
  omega
theorem own_slice {base n cap : Nat} {e : TypeId} {A : Option Addr} {l : List UInt8} (h : w.ownsRow base e 1 (.slice A n cap) n (l.map byt)) (hn : n = l.length) : Sl w (.slice A n cap) l := by
  subst hn
  obtain ⟨A', c', he, h1, h2, _⟩ := own_shape h
  injection he with e1 e2 e3
  subst e1 e3
  exact ⟨A, cap, rfl, h1, h2, own_rd h⟩
end
theorem rd3 {w : World} {k : Nat} {x y z : Value} (h0 : w.cell? ⟨k, 0, none⟩ = some x) (h1 : w.cell? ⟨k, 1, none⟩ = some y) (h2 : w.cell? ⟨k, 2, none⟩ = some z) : Rd w (some ⟨k, 0, none⟩) [x, y, z] := fun j u hj => by
  match j, hj with
  | 0, hj => cases hj; exact ⟨_, rfl, by rw [add_none]; exact h0⟩
  | 1, hj => cases hj; exact ⟨_, rfl, by rw [add_none]; exact h1⟩
  | 2, hj => cases hj; exact ⟨_, rfl, by rw [add_none]; exact h2⟩
end Go.Cov
namespace Go.Cov
open Go.RowKit
theorem NewE.nil {α : Type} (T : El α) (base : Nat) : NewE T base [] := fun a ha => by cases ha
theorem NewE.app {α : Type} {T : El α} {base : Nat} {xs ys : List α} (h : NewE T base xs) (g : NewE T base ys) : NewE T base (xs ++ ys) := fun a ha => by
  rcases List.mem_append.1 ha with ha | ha
  · exact h a ha
  · exact g a ha
end Go.Cov
namespace Go.Cov
open Go.RowKit
theorem en_off {w w0 : World} {base base' n size : Nat} {e e' : TypeId} {v : Value} {xs : List Value} {x : En} (h : w.ownsRow base e 1 (.slice x.A x.op.length x.cap) x.op.length (x.op.map byt)) (h0 : w0.ownsRow base' e' size v n xs) (hs : w0.heap.size ≤ base) : Off enEl w v [x] := fun a ha p hp => by
  rw [List.mem_singleton.1 ha] at hp
  rw [List.mem_singleton.1 hp]
  refine ⟨own_slice h rfl, fun _ hn he => ?_⟩
  exact own_new h h0 hs (fun hh => hn (he.symm.trans hh)) he
theorem en_new {w : World} {base base' n : Nat} {e : TypeId} {x : En} {xs : List Value} (h : w.ownsRow base e 1 (.slice x.A x.op.length x.cap) n xs) (hb : base' ≤ base) : NewE enEl base' [x] := fun a ha p hp k hk => by
  rw [List.mem_singleton.1 ha] at hp
  rw [List.mem_singleton.1 hp] at hk
  exact Nat.le_trans hb (own_lt h hk).1
end Go.Cov
namespace Go.Cov
open Go.RowKit
theorem results_cell2 {P : Program} {fn : Func} {k k2 : Nat} {t : TypeId} (hr : fn.results = #[.cell k t, .tmp k2]) {ts : Array Value} {b : Nat} (ht : ts.getD k undef = .pointer (some ⟨b, 0, none⟩)) {x : Value} (hx : ts.getD k2 undef = x) {w : World} {cs : List Value} (R : Row w b cs) {d : TypeDesc} (hu : P.underlying t = some d) (hd : d.isRow = true) (hi : (P.info? t).map (·.size) = some cs.length) :
    (results fn ts).run P w = .ok (.tuple #[.agg cs.toArray, x]) w := by
  have hl := run_loadVar_mid (P := P) w b 0 t cs d R.range hu hd hi
  have ht' : ts[k]?.getD undef = .pointer (some ⟨b, 0, none⟩) := by rw [← ht]; simp
  have hx' : ts[k2]?.getD undef = x := by rw [← hx]; simp
  simp [results, hr, ht', hx', asAddr, hl]
end Go.Cov


/-
  Lemmas of this claim's own: a cell that holds bytes which grow. Over any program.
-/
namespace Go.Cov
open Go.RowKit
/-- a cell that holds a slice of bytes that is its writer's own -/
structure Wt (e : TypeId) (w : World) (wb : Nat) (v : Value) (l : List UInt8) : Prop where
  lt : wb < w.heap.size
  cell : w.cell? ⟨wb, 0, none⟩ = some v
  froz : w.frozen? ⟨wb, 0, none⟩ = false
  own : w.ownsRow (wb + 1) e 1 v l.length (l.map byt)
/-- only the cell's block, its slice's own block and new ones have turned -/
structure Tw (wb : Nat) (v : Value) (w : World) (v' : Value) (w' : World) : Prop where
  os : w'.os = w.os
  tape : w'.tape = w.tape
  output : w'.output = w.output
  size : w.heap.size ≤ w'.heap.size
  own : v'.ownBlock = v.ownBlock ∨ ∃ k, v'.ownBlock = some k ∧ w.heap.size ≤ k
  block : ∀ k, k < w.heap.size → k ≠ wb → v.ownBlock ≠ some k → w'.heap[k]? = w.heap[k]?
section
variable {e : TypeId} {w w1 w2 : World} {wb : Nat} {v v1 v2 : Value} {l m : List UInt8}
theorem Tw.refl (wb : Nat) (v : Value) (w : World) : Tw wb v w v w := ⟨rfl, rfl, rfl, Nat.le_refl _, .inl rfl, fun _ _ _ _ => rfl⟩
theorem Tw.trans (h : Tw wb v w v1 w1) (g : Tw wb v1 w1 v2 w2) : Tw wb v w v2 w2 := by
  refine ⟨g.os.trans h.os, g.tape.trans h.tape, g.output.trans h.output, Nat.le_trans h.size g.size, ?_, fun k hk h1 h2 => ?_⟩
  · rcases g.own with g1 | ⟨k, g1, g2⟩
    · rcases h.own with h1 | ⟨k, h1, h2⟩
      · exact .inl (g1.trans h1)
      · exact .inr ⟨k, g1.trans h1, h2⟩
    · exact .inr ⟨k, g1, Nat.le_trans h.size g2⟩
  · have h3 : v1.ownBlock ≠ some k := by
      intro he
      rcases h.own with h4 | ⟨j, h4, h5⟩
      · exact h2 (h4.symm.trans he)
      · rw [h4] at he; injection he with he; omega
    exact (g.block k (Nat.lt_of_lt_of_le hk h.size) h1 h3).trans (h.block k hk h1 h2)
theorem Tw.of_below (h : Below w.heap.size w w1) : Tw wb v w v w1 := ⟨h.os, h.tape, h.output, h.size, .inl rfl, fun k hk _ _ => h.block k hk⟩
theorem Tw.below {n : Nat} (h : Tw wb v w v1 w1) (hw : Wt e w wb v l) (hn : n ≤ wb) : Below n w w1 :=
  ⟨h.os, h.tape, h.output, h.size, fun k hk => h.block k (by have := hw.lt; omega) (by omega) (fun he => by have := (own_lt hw.own he).1; omega)⟩
theorem Wt.on (h : Wt e w wb v l) (hb : Below w.heap.size w w1) : Wt e w1 wb v l := ⟨Nat.lt_of_lt_of_le h.lt hb.size, cell_on hb h.cell, froz_on hb h.lt h.froz, own_below h.own hb⟩
theorem own_heap' {base n size : Nat} {xs : List Value} (h : w.ownsRow base e size v n xs) (hk : ∀ k, v.ownBlock = some k → w1.heap[k]? = w.heap[k]?) : w1.ownsRow base e size v n xs := by
  refine ⟨h.1, ?_⟩
  rcases h.2 with h2 | ⟨g, cap, cur, hv, hg, hh, r⟩
  · exact .inl h2
  · exact .inr ⟨g, cap, cur, hv, hg, (hk g (by rw [hv]; rfl)).trans hh, r⟩
theorem heap_set' {p : Addr} {x : Value} {k : Nat} (h : k ≠ p.block) : (w.setCell p x).heap[k]? = w.heap[k]? := by
  simp only [World.setCell, Array.getElem?_modify]
  rw [if_neg (Ne.symm h)]
/-- behind an append: the slice is stored -/
theorem Wt.app (h : Wt e w wb v l) (hg : w.grownBy w1 v.ownBlock) (hat : v1.ownBlock = v.ownBlock ∨ v1.ownBlock = some w.heap.size) (ho : w1.ownsRow (wb + 1) e 1 v1 (l.length + m.length) (l.map byt ++ m.map byt)) :
    Wt e (w1.setCell ⟨wb, 0, none⟩ v1) wb v1 (l ++ m) ∧ Tw wb v w v1 (w1.setCell ⟨wb, 0, none⟩ v1) := by
  have hne : some wb ≠ v.ownBlock := fun he => by have := (own_lt h.own he.symm).1; omega
  have hbl : w1.heap[wb]? = w.heap[wb]? := hg.block wb h.lt hne
  have hc1 : w1.cell? ⟨wb, 0, none⟩ = some v := (World.cell?_of_block (a := ⟨wb, 0, none⟩) hbl).trans h.cell
  have hf1 : w1.frozen? ⟨wb, 0, none⟩ = false := (World.frozen?_of_block (a := ⟨wb, 0, none⟩) hbl).trans h.froz
  refine ⟨⟨by rw [World.size_setCell]; exact Nat.lt_of_lt_of_le h.lt hg.size, World.cell?_setCell_same' _ _ _ (by rw [hc1]; rfl), by rw [World.frozen?_setCell]; exact hf1, ?_⟩, ?_⟩
  · rw [List.length_append, List.map_append]
    refine own_heap' ho fun k hk => heap_set' ?_
    have := (own_lt ho hk).1
    show k ≠ wb
    omega
  · refine ⟨hg.os, hg.tape, hg.output, by rw [World.size_setCell]; exact hg.size, ?_, fun k hk h1 h2 => ?_⟩
    · rcases hat with h4 | h4
      · exact .inl h4
      · exact .inr ⟨_, h4, Nat.le_refl _⟩
    · rw [heap_set' (show k ≠ (⟨wb, 0, none⟩ : Addr).block from h1)]
      exact hg.block k hk (fun he => h2 he.symm)
theorem Wt.mid (h : Wt e w wb v l) (hg : w.grownBy w1 v.ownBlock) : w1.cell? ⟨wb, 0, none⟩ = some v ∧ w1.frozen? ⟨wb, 0, none⟩ = false := by
  have hne : some wb ≠ v.ownBlock := fun he => by have := (own_lt h.own he.symm).1; omega
  have hbl : w1.heap[wb]? = w.heap[wb]? := hg.block wb h.lt hne
  exact ⟨(World.cell?_of_block (a := ⟨wb, 0, none⟩) hbl).trans h.cell, (World.frozen?_of_block (a := ⟨wb, 0, none⟩) hbl).trans h.froz⟩
/-- a place apart -/
def ApaW (wb : Nat) (v : Value) (A : Option Addr) : Prop := ∀ ad, A = some ad → ad.block ≠ wb ∧ v.ownBlock ≠ some ad.block
theorem Rd.tw {A : Option Addr} {xs : List Value} (h : Rd w A xs) (hA : ApaW wb v A) (hT : Tw wb v w v1 w1) : Rd w1 A xs := fun j u hj => by
  obtain ⟨ad, hA', hc⟩ := h j u hj
  have h1 := hA ad hA'
  refine ⟨ad, hA', ?_⟩
  have hl := cell_lt hc
  rw [World.cell?_of_block (w := w) (hT.block _ hl (by rw [block_add]; exact h1.1) (by rw [block_add]; exact h1.2))]
  exact hc
theorem Tw.cell {p : Addr} {u : Value} (hT : Tw wb v w v1 w1) (hA : ApaW wb v (some p)) (hc : w.cell? p = some u) : w1.cell? p = some u := by
  rw [World.cell?_of_block (w := w) (hT.block _ (cell_lt hc) (hA p rfl).1 (hA p rfl).2)]
  exact hc
theorem ApaW.at' {p q : Addr} (h : ApaW wb v (some p)) (hq : q.block = p.block) : ApaW wb v (some q) := fun ad ha => by
  cases ha
  rw [hq]
  exact h p rfl
/-- what lies below -/
theorem ApaW.old {A : Option Addr} (h : Wt e w wb v l) (hA : ∀ ad, A = some ad → ad.block < wb) : ApaW wb v A := fun ad ha => by
  have := hA ad ha
  exact ⟨by omega, fun he => by have := (own_lt h.own he).1; omega⟩
/-- what is new -/
theorem ApaW.new {A : Option Addr} (h : Wt e w wb v l) (hA : ∀ ad, A = some ad → w.heap.size ≤ ad.block) : ApaW wb v A := fun ad ha => by
  have h1 := hA ad ha
  have h2 := h.lt
  exact ⟨by omega, fun he => by have := (own_lt h.own he).2; omega⟩
end
end Go.Cov


/-
  Lemmas of this claim's own: a slice of bytes that grows, handed on as a value. Over any program.
-/
namespace Go.Cov
open Go.RowKit
/-- only v's own block and new ones have turned; v' lies in v's block or in a new one -/
structure Tv (v : Value) (w : World) (v' : Value) (w' : World) : Prop where
  os : w'.os = w.os
  tape : w'.tape = w.tape
  output : w'.output = w.output
  size : w.heap.size ≤ w'.heap.size
  own : v'.ownBlock = v.ownBlock ∨ ∃ k, v'.ownBlock = some k ∧ w.heap.size ≤ k
  block : ∀ k, k < w.heap.size → v.ownBlock ≠ some k → w'.heap[k]? = w.heap[k]?
section
variable {e : TypeId} {w w1 w2 : World} {v v1 v2 : Value} {l m : List UInt8} {base : Nat}
theorem Tv.refl (v : Value) (w : World) : Tv v w v w := ⟨rfl, rfl, rfl, Nat.le_refl _, .inl rfl, fun _ _ _ => rfl⟩
theorem Tv.trans (h : Tv v w v1 w1) (g : Tv v1 w1 v2 w2) : Tv v w v2 w2 := by
  refine ⟨g.os.trans h.os, g.tape.trans h.tape, g.output.trans h.output, Nat.le_trans h.size g.size, ?_, fun k hk h2 => ?_⟩
  · rcases g.own with g1 | ⟨k, g1, g2⟩
    · rcases h.own with h1 | ⟨k, h1, h2⟩
      · exact .inl (g1.trans h1)
      · exact .inr ⟨k, g1.trans h1, h2⟩
    · exact .inr ⟨k, g1, Nat.le_trans h.size g2⟩
  · have h3 : v1.ownBlock ≠ some k := by
      intro he
      rcases h.own with h4 | ⟨j, h4, h5⟩
      · exact h2 (h4.symm.trans he)
      · rw [h4] at he; injection he with he; omega
    exact (g.block k (Nat.lt_of_lt_of_le hk h.size) h3).trans (h.block k hk h2)
theorem Tv.of_below (h : Below w.heap.size w w1) : Tv v w v w1 := ⟨h.os, h.tape, h.output, h.size, .inl rfl, fun k hk _ => h.block k hk⟩
theorem Tv.app (hg : w.grownBy w1 v.ownBlock) (hat : v1.ownBlock = v.ownBlock ∨ v1.ownBlock = some w.heap.size) : Tv v w v1 w1 := by
  refine ⟨hg.os, hg.tape, hg.output, hg.size, ?_, fun k hk h2 => hg.block k hk (fun he => h2 he.symm)⟩
  rcases hat with h4 | h4
  · exact .inl h4
  · exact .inr ⟨_, h4, Nat.le_refl _⟩
theorem Tv.below (h : Tv v w v1 w1) {n : Nat} {xs : List Value} {size : Nat} (ho : w.ownsRow base e size v n xs) (hb : base ≤ w.heap.size) : Below base w w1 :=
  ⟨h.os, h.tape, h.output, h.size, fun k hk => h.block k (Nat.lt_of_lt_of_le hk hb) (fun he => by have := (own_lt ho he).1; omega)⟩
theorem Tv.cell (h : Tv v w v1 w1) {p : Addr} {x : Value} (hc : w.cell? p = some x) (hne : v.ownBlock ≠ some p.block) : w1.cell? p = some x :=
  (World.cell?_of_block (h.block p.block (cell_lt hc) hne)).trans hc
theorem Rd.tv {A : Option Addr} {xs : List Value} (h : Rd w A xs) (hA : ∀ ad, A = some ad → v.ownBlock ≠ some ad.block) (hT : Tv v w v1 w1) : Rd w1 A xs := fun j u hj => by
  obtain ⟨ad, hA', hc⟩ := h j u hj
  refine ⟨ad, hA', ?_⟩
  rw [World.cell?_of_block (w := w) (hT.block _ (cell_lt hc) (by rw [block_add]; exact hA ad hA'))]
  exact hc
/-- what is new lies apart -/
theorem apart_new {n size : Nat} {xs : List Value} {A : Option Addr} (ho : w.ownsRow base e size v n xs) (hA : ∀ ad, A = some ad → w.heap.size ≤ ad.block) : ∀ ad, A = some ad → v.ownBlock ≠ some ad.block := fun ad ha he => by
  have h1 := hA ad ha
  have h2 := (own_lt ho he).2
  omega
/-- what is older than the base lies apart -/
theorem apart_old {n size : Nat} {xs : List Value} {A : Option Addr} (ho : w.ownsRow base e size v n xs) (hA : ∀ ad, A = some ad → ad.block < base) : ∀ ad, A = some ad → v.ownBlock ≠ some ad.block := fun ad ha he => by
  have h1 := hA ad ha
  have h2 := (own_lt ho he).1
  omega
end
end Go.Cov


/-
  Lemmas of this claim's own: an older reader's cells, beside rows that a call has made. Over any program.
-/
namespace Go.Cov
open Go.RowKit
/-- a result's row, a struct's row, one more, made by a call, and a reader that was there; X is what else is kept -/
structure Rc (w0 W : World) (m res ob b q : Nat) (zs qs vs : List Value) (A : Option Addr) (c : Nat) (l : List UInt8) (s : Int × Int) (X : World → Prop) : Prop where
  r1 : Row W res zs
  rq : qs ≠ [] → Row W q qs
  r2 : Row W ob vs
  rr : Rr W b A c l s
  x : X W
  kx : ∀ k W1 W2, k < m → Gro k k W1 W2 → m ≤ W1.heap.size → X W1 → X W2
  ord : (b < w0.heap.size ∧ w0.heap.size ≤ res ∧ w0.heap.size ≤ ob ∧ w0.heap.size ≤ q) ∧ (res < m ∧ ob < m) ∧ res ≠ ob ∧ q ≠ res ∧ q ≠ ob
  sz : m ≤ W.heap.size
  old : l ≠ [] → ∀ ad, A = some ad → ad.block < w0.heap.size
  gro : Gro b b w0 W
section
variable {w0 W W1 : World} {m res ob b q c : Nat} {zs qs vs : List Value} {A : Option Addr} {l : List UInt8} {s s1 : Int × Int} {X : World → Prop}
theorem Rc.next (h : Rc w0 W m res ob b q zs qs vs A c l s X) (hr : Rr W1 b A c l s1) (hG : Gro b b W W1) : Rc w0 W1 m res ob b q zs qs vs A c l s1 X := by
  have ho := h.ord
  exact ⟨h.r1.gro hG (by omega), fun hq => (h.rq hq).gro hG (by omega), h.r2.gro hG (by omega), hr, h.kx b _ _ (by omega) hG h.sz h.x, h.kx, ho, Nat.le_trans h.sz hG.size, h.old, h.gro.trans hG⟩
theorem Rc.more (h : Rc w0 W m res ob b q zs qs vs A c l s X) {Y : World → Prop} (hy : Y W) (hk : ∀ k W1 W2, k < m → Gro k k W1 W2 → m ≤ W1.heap.size → Y W1 → Y W2) : Rc w0 W m res ob b q zs qs vs A c l s (fun W => X W ∧ Y W) :=
  ⟨h.r1, h.rq, h.r2, h.rr, ⟨h.x, hy⟩, fun k W1 W2 hk1 hG hs hxy => ⟨h.kx k W1 W2 hk1 hG hs hxy.1, hk k W1 W2 hk1 hG hs hxy.2⟩, h.ord, h.sz, h.old, h.gro⟩
theorem Rc.set (h : Rc w0 W m res ob b q zs qs vs A c l s X) (i : Nat) (hi : i < vs.length) (x : Value) : Rc w0 (W.setCell ⟨ob, i, none⟩ x) m res ob b q zs qs (vs.set i x) A c l s X := by
  have ho := h.ord
  have hG := Gro.set ob ob i W x
  exact ⟨h.r1.gro hG (by omega), fun hq => (h.rq hq).gro hG (by omega), h.r2.set i hi x, h.rr.new' hG (by omega) (fun hl ad ha => by have := h.old hl ad ha; omega), h.kx ob _ _ (by omega) hG h.sz h.x, h.kx, ho, Nat.le_trans h.sz hG.size, h.old, h.gro.newset (by omega) i x⟩
/-- what grows behind all that -/
theorem Rc.on (h : Rc w0 W m res ob b q zs qs vs A c l s X) (hb : Below W.heap.size W W1) : Rc w0 W1 m res ob b q zs qs vs A c l s X := by
  have ho := h.ord
  exact ⟨h.r1.below hb, fun hq => (h.rq hq).below hb, h.r2.below hb, h.rr.below hb, h.kx b _ _ (by omega) (Gro.of_below hb) h.sz h.x, h.kx, ho, Nat.le_trans h.sz hb.size, h.old, h.gro.step (hb.mono h.gro.size) (Nat.le_trans h.gro.size hb.size)⟩
/-- what a row beside has grown by -/
theorem Rc.gro_ob (h : Rc w0 W m res ob b q zs qs vs A c l s X) (hG : Gro ob ob W W1) {vs1 : List Value} (hr : Row W1 ob vs1) : Rc w0 W1 m res ob b q zs qs vs1 A c l s X := by
  have ho := h.ord
  exact ⟨h.r1.gro hG (by omega), fun hq => (h.rq hq).gro hG (by omega), hr, h.rr.new' hG (by omega) (fun hl ad ha => by have := h.old hl ad ha; omega), h.kx ob _ _ (by omega) hG h.sz h.x, h.kx, ho, Nat.le_trans h.sz hG.size, h.old, h.gro.newgro (by omega) hG⟩
theorem Rc.c2 (h : Rc w0 W m res ob b q zs qs vs A c l s X) (i : Nat) (v : Value) (hi : vs[i]? = some v) : W.cell? ⟨ob, i, none⟩ = some v := (h.r2.2 i v hi).1
theorem Rc.f2 (h : Rc w0 W m res ob b q zs qs vs A c l s X) (i : Nat) (v : Value) (hi : vs[i]? = some v) : W.frozen? ⟨ob, i, none⟩ = false := (h.r2.2 i v hi).2
theorem Rc.cq (h : Rc w0 W m res ob b q zs qs vs A c l s X) (i : Nat) (v : Value) (hi : qs[i]? = some v) : W.cell? ⟨q, i, none⟩ = some v := ((h.rq (by rintro rfl; simp at hi)).2 i v hi).1
/-- the end: all goes into the result -/
theorem Rc.fin (h : Rc w0 W m res ob b q zs qs vs A c l s X) (hl : vs.length = zs.length) : Row (W.setCells res 0 vs) res vs ∧ Rr (W.setCells res 0 vs) b A c l s ∧ X (W.setCells res 0 vs) ∧ Gro b b w0 (W.setCells res 0 vs) := by
  have ho := h.ord
  have hG := Gro.setCells res res W vs
  exact ⟨h.r1.setCells hl, h.rr.new' hG (by omega) (fun hl ad ha => by have := h.old hl ad ha; omega), h.kx res _ _ (by omega) hG h.sz h.x, h.gro.newgro (by omega) hG⟩
/-- a row of the call's own has grown; what is kept is told anew -/
theorem Rc.grown (h : Rc w0 W m res ob b q zs qs vs A c l s X) {row : Option Nat} (hg : W.grownBy W1 row) (hr : ∀ k, row = some k → m ≤ k) (hq : q < m ∨ qs = []) {Y : World → Prop} (hy : Y W1) (hk : ∀ k W1 W2, k < m → Gro k k W1 W2 → m ≤ W1.heap.size → Y W1 → Y W2) : Rc w0 W1 m res ob b q zs qs vs A c l s Y := by
  have ho := h.ord
  exact ⟨h.r1.grown hg (fun e => by have := hr _ e; omega), fun hn => (h.rq hn).grown hg (fun e => by have := hr _ e; rcases hq with hq | hq; omega; exact hn hq), h.r2.grown hg (fun e => by have := hr _ e; omega), h.rr.grown hg (fun e => by have := hr _ e; omega) (fun hl ad ha e => by have h1 := hr _ e; have h2 := h.old hl ad ha; omega), hy, hk, ho, Nat.le_trans h.sz hg.size, h.old, h.gro.grown hg (fun k e => by have := hr _ e; omega)⟩
theorem Rc.to (h : Rc w0 W m res ob b q zs qs vs A c l s X) {Y : World → Prop} (hy : Y W) (hk : ∀ k W1 W2, k < m → Gro k k W1 W2 → m ≤ W1.heap.size → Y W1 → Y W2) : Rc w0 W m res ob b q zs qs vs A c l s Y :=
  ⟨h.r1, h.rq, h.r2, h.rr, hy, hk, h.ord, h.sz, h.old, h.gro⟩
theorem keep_ownc {e : TypeId} {base n size : Nat} {v : Value} {xs : List Value} {k : Nat} {W1 W2 : World} (hm : m ≤ base) (hk : k < m) (hG : Gro k k W1 W2) (h : W1.ownsRow base e size v n xs) : W2.ownsRow base e size v n xs := hG.own h (by omega)
theorem keep_elsc {α : Type} {T : El α} (hT : ∀ a, T.cons a = []) {base : Nat} {e : TypeId} {v : Value} {xs : List α} {k : Nat} {W1 W2 : World} (hm : m ≤ base) (hk : k < m) (hG : Gro k k W1 W2) (h : OwnEls T W1 base e v xs) : OwnEls T W2 base e v xs :=
  ⟨hG.own h.1 (by omega), fun a ha p hp => by rw [hT a] at hp; cases hp⟩
end
end Go.Cov


/-
  Lemmas of this claim's own: a list of places, each with what it holds, that may be written. Over any program.
-/
namespace Go.Cov
open Go.RowKit
/-- the places hold this, and may be written; no two are one -/
structure Mem (w : World) (ps : List (Addr × Value)) : Prop where
  cell : ∀ (i : Nat) (p : Addr) (v : Value), ps[i]? = some (p, v) → w.cell? p = some v ∧ w.frozen? p = false
  nd : ∀ (i j : Nat) (p q : Addr) (u v : Value), ps[i]? = some (p, u) → ps[j]? = some (q, v) → i ≠ j → p ≠ q
section
variable {w w1 : World} {ps qs : List (Addr × Value)}
theorem Mem.lt (h : Mem w ps) {i : Nat} {p : Addr} {v : Value} (hi : ps[i]? = some (p, v)) : p.block < w.heap.size := cell_lt (h.cell i p v hi).1
theorem Mem.below (h : Mem w ps) (hb : Below w.heap.size w w1) : Mem w1 ps :=
  ⟨fun i p v hi => ⟨cell_on hb (h.cell i p v hi).1, (hb.frozen (p := p) (h.lt hi)).trans (h.cell i p v hi).2⟩, h.nd⟩
/-- kept where another block is written -/
theorem Mem.gro {b : Nat} (h : Mem w ps) (hG : Gro b b w w1) (hb : ∀ (i : Nat) (p : Addr) (v : Value), ps[i]? = some (p, v) → p.block ≠ b) : Mem w1 ps :=
  ⟨fun i p v hi => by
    have hk := hG.block p.block (h.lt hi) (hb i p v hi) (hb i p v hi)
    exact ⟨(World.cell?_of_block hk).trans (h.cell i p v hi).1, (World.frozen?_of_block hk).trans (h.cell i p v hi).2⟩, h.nd⟩
theorem Mem.grown {row : Option Nat} (h : Mem w ps) (hg : w.grownBy w1 row) (hb : ∀ (i : Nat) (p : Addr) (v : Value), ps[i]? = some (p, v) → row ≠ some p.block) : Mem w1 ps :=
  ⟨fun i p v hi => by
    have hk := hg.block p.block (h.lt hi) (fun e => hb i p v hi e.symm)
    exact ⟨(World.cell?_of_block hk).trans (h.cell i p v hi).1, (World.frozen?_of_block hk).trans (h.cell i p v hi).2⟩, h.nd⟩
theorem Mem.ne (h : Mem w ps) {i j : Nat} {p q : Addr} {u v : Value} (hi : ps[i]? = some (p, u)) (hj : ps[j]? = some (q, v)) (hij : i ≠ j) : p ≠ q := h.nd i j p q u v hi hj hij
/-- one place written -/
theorem Mem.set (h : Mem w ps) {j : Nat} {q : Addr} {u : Value} (hj : ps[j]? = some (q, u)) (x : Value) : Mem (w.setCell q x) (ps.set j (q, x)) := by
  have hl : j < ps.length := (List.getElem?_eq_some_iff.1 hj).1
  refine ⟨fun i p v hi => ?_, ?_⟩
  · by_cases hij : i = j
    · subst hij
      rw [List.getElem?_set_self hl] at hi
      injection hi with hi
      injection hi with h1 h2
      subst h1 h2
      exact ⟨World.cell?_setCell_same' _ _ _ (by rw [(h.cell i q u hj).1]; rfl), by rw [World.frozen?_setCell]; exact (h.cell i q u hj).2⟩
    · rw [List.getElem?_set_ne (Ne.symm hij)] at hi
      exact ⟨(World.cell?_setCell_other _ _ _ _ (h.ne hj hi (Ne.symm hij))).trans (h.cell i p v hi).1, by rw [World.frozen?_setCell]; exact (h.cell i p v hi).2⟩
  · intro i k p p' v v' hi hk hik
    have g : ∀ (i : Nat) (p : Addr) (v : Value), (ps.set j (q, x))[i]? = some (p, v) → ∃ v0, ps[i]? = some (p, v0) := fun i p v hi => by
      by_cases hij : i = j
      · subst hij
        rw [List.getElem?_set_self hl] at hi
        injection hi with hi
        injection hi with h1 h2
        exact ⟨u, by rw [← h1]; exact hj⟩
      · rw [List.getElem?_set_ne (Ne.symm hij)] at hi
        exact ⟨v, hi⟩
    obtain ⟨v0, e0⟩ := g i p v hi
    obtain ⟨v1, e1⟩ := g k p' v' hk
    exact h.nd i k p p' v0 v1 e0 e1 hik
/-- the values xs at the places js, one behind the other -/
def setAll (ps : List (Addr × Value)) : List Nat → List Value → List (Addr × Value)
  | j :: js, x :: xs => setAll (match ps[j]? with | some (q, _) => ps.set j (q, x) | none => ps) js xs
  | _, _ => ps
end
end Go.Cov
namespace Go.Cov
open Go.RowKit
/-- only the blocks of B, and new ones, have turned -/
structure Gs (B : Nat → Prop) (w w' : World) : Prop where
  os : w'.os = w.os
  tape : w'.tape = w.tape
  output : w'.output = w.output
  size : w.heap.size ≤ w'.heap.size
  block : ∀ k, k < w.heap.size → ¬ B k → w'.heap[k]? = w.heap[k]?
section
variable {B : Nat → Prop} {w w1 w2 : World} {b : Nat}
theorem Gs.refl (B : Nat → Prop) (w : World) : Gs B w w := ⟨rfl, rfl, rfl, Nat.le_refl _, fun _ _ _ => rfl⟩
theorem Gs.trans (h : Gs B w w1) (g : Gs B w1 w2) : Gs B w w2 := ⟨g.os.trans h.os, g.tape.trans h.tape, g.output.trans h.output, Nat.le_trans h.size g.size, fun k hk hb => (g.block k (Nat.lt_of_lt_of_le hk h.size) hb).trans (h.block k hk hb)⟩
theorem Gs.of_gro (h : Gro b b w w1) (hb : B b) : Gs B w w1 := ⟨h.os, h.tape, h.output, h.size, fun k hk hn => h.block k hk (fun e => hn (e ▸ hb)) (fun e => hn (e ▸ hb))⟩
theorem Gs.of_below (h : Below w.heap.size w w1) : Gs B w w1 := ⟨h.os, h.tape, h.output, h.size, fun k hk _ => h.block k hk⟩
theorem Gs.set {p : Addr} (hp : B p.block) (v : Value) : Gs B w (w.setCell p v) := ⟨rfl, rfl, rfl, by simp, fun k _ hn => by
  simp only [World.setCell, Array.getElem?_modify]
  rw [if_neg (fun e : p.block = k => hn (by rw [← e]; exact hp))]⟩
theorem Gs.below {n : Nat} (h : Gs B w w1) (hB : ∀ k, B k → n ≤ k) (hn : n ≤ w.heap.size) : Below n w w1 := ⟨h.os, h.tape, h.output, h.size, fun k hk => h.block k (Nat.lt_of_lt_of_le hk hn) (fun hb => by have := hB k hb; omega)⟩
theorem Gs.rd {A : Option Addr} {xs : List Value} (h : Gs B w w1) (hr : Rd w A xs) (hA : xs ≠ [] → ∀ ad, A = some ad → ¬ B ad.block) : Rd w1 A xs := fun j u hj => by
  obtain ⟨ad, hA', hc⟩ := hr j u hj
  refine ⟨ad, hA', ?_⟩
  have hl := cell_lt hc
  have h1 := hA (by rintro rfl; simp at hj) ad hA'
  rw [World.cell?_of_block (w := w) (h.block _ hl (by rw [block_add]; exact h1))]
  exact hc
end
/-- parts one behind the other -/
def nxs {α : Type} (f : List UInt8 → Int → α × Int × Int) (d : α) : Nat → List UInt8 → Int × Int → List α × Int × Int
  | 0, _, s => ([], s)
  | n + 1, l, s => ((nx f d l s).1 :: (nxs f d n l (nx f d l s).2).1, (nxs f d n l (nx f d l s).2).2)
theorem nxs_err {α : Type} (f : List UInt8 → Int → α × Int × Int) (d : α) : ∀ (n : Nat) (l : List UInt8) (s : Int × Int), s.2 ≠ 0 → nxs f d n l s = (List.replicate n d, s)
  | 0, _, _, _ => rfl
  | n + 1, l, s, h => by
    have e : nx f d l s = (d, s) := by rw [nx, if_neg h]
    rw [nxs, e, nxs_err f d n l s h]; rfl
end Go.Cov
namespace Go.Cov
open Go.RowKit
/-- the place at an index -/
def adr (ps : List (Addr × Value)) (j : Nat) : Addr := match ps[j]? with | some (q, _) => q | none => ⟨0, 0, none⟩
/-- a value put at an index -/
def putAt (ps : List (Addr × Value)) (j : Nat) (x : Value) : List (Addr × Value) := match ps[j]? with | some (q, _) => ps.set j (q, x) | none => ps
theorem adr_of {ps : List (Addr × Value)} {j : Nat} {q : Addr} {u : Value} (h : ps[j]? = some (q, u)) : adr ps j = q := by unfold adr; rw [h]
theorem putAt_of {ps : List (Addr × Value)} {j : Nat} {q : Addr} {u : Value} (h : ps[j]? = some (q, u)) (x : Value) : putAt ps j x = ps.set j (q, x) := by unfold putAt; rw [h]
theorem adr_put (ps : List (Addr × Value)) (j : Nat) (x : Value) (i : Nat) : adr (putAt ps j x) i = adr ps i := by
  unfold putAt
  split
  · rename_i q u h
    have hl : j < ps.length := (List.getElem?_eq_some_iff.1 h).1
    unfold adr
    by_cases hij : i = j
    · subst hij; rw [List.getElem?_set_self hl, h]
    · rw [List.getElem?_set_ne (Ne.symm hij)]
  · rfl
theorem len_put (ps : List (Addr × Value)) (j : Nat) (x : Value) : (putAt ps j x).length = ps.length := by
  unfold putAt; split <;> simp
/-- parts read into places, one behind the other, until the first error -/
def intoS {α : Type} (f : List UInt8 → Int → α × Int × Int) (F : α → Value) (l : List UInt8) : List (Addr × Value) → List Nat → Int × Int → List (Addr × Value) × Int × Int
  | ps, [], s => (ps, s)
  | ps, j :: js, s => if s.2 = 0 then intoS f F l (putAt ps j (F (f l s.1).1)) js (f l s.1).2 else (ps, s)
theorem intoS_err {α : Type} (f : List UInt8 → Int → α × Int × Int) (F : α → Value) (l : List UInt8) (ps : List (Addr × Value)) (js : List Nat) (s : Int × Int) (h : s.2 ≠ 0) : intoS f F l ps js s = (ps, s) := by
  cases js with
  | nil => rfl
  | cons j js => rw [intoS, if_neg h]
theorem intoS_step {α : Type} (f : List UInt8 → Int → α × Int × Int) (F : α → Value) (l : List UInt8) (ps : List (Addr × Value)) (js : List Nat) (k : Nat) (hk : k < js.length) (s : Int × Int) (h : s.2 = 0) : intoS f F l ps (js.drop k) s = intoS f F l (putAt ps js[k] (F (f l s.1).1)) (js.drop (k + 1)) (f l s.1).2 := by
  rw [List.drop_eq_getElem_cons hk, intoS, if_pos h]
theorem Mem.put {w : World} {ps : List (Addr × Value)} (h : Mem w ps) {j : Nat} (hj : j < ps.length) (x : Value) : Mem (w.setCell (adr ps j) x) (putAt ps j x) := by
  obtain ⟨q, u, hq⟩ : ∃ q u, ps[j]? = some (q, u) := ⟨ps[j].1, ps[j].2, List.getElem?_eq_getElem hj⟩
  rw [adr_of hq, putAt_of hq]
  exact h.set hq x
theorem Mem.at' {w : World} {ps : List (Addr × Value)} (h : Mem w ps) {j : Nat} (hj : j < ps.length) : ∃ u, ps[j]? = some (adr ps j, u) ∧ w.cell? (adr ps j) = some u ∧ w.frozen? (adr ps j) = false := by
  obtain ⟨q, u, hq⟩ : ∃ q u, ps[j]? = some (q, u) := ⟨ps[j].1, ps[j].2, List.getElem?_eq_getElem hj⟩
  rw [adr_of hq]
  exact ⟨u, hq, (h.cell j q u hq).1, (h.cell j q u hq).2⟩
end Go.Cov


/-! operations and replies as data: their bytes, their reading. Plain laws -/
namespace Go.Cov
open Go.RowKit
/-- a value: its type, its number, its text -/
abbrev VD := Int × Int × List UInt8
def plainV (v : VD) : Bool := decide ((v.1 = 1 ∨ v.1 = 2) ∧ v.2.2.length = 0 ∨ v.1 = 3 ∧ v.2.1 = 0 ∧ v.2.2.length ≤ 256 ∨ v.1 = 0 ∧ v.2.1 = 0 ∧ v.2.2.length = 0)
def putV (v : VD) : List UInt8 := be 8 v.1 ++ (be 8 v.2.1 ++ tx v.2.2)
def getV : List UInt8 → Int × Int → VD × Int × Int := sq (nx numR 0) (sq (nx numR 0) (nx bytesR []))
def okV (v : VD) : Prop := I64 v.1 ∧ I64 v.2.1 ∧ v.2.2.length ≤ 65536
theorem cod_val : Cod okV putV getV := cod_num.seq (cod_num.seq cod_text)
theorem plain_le {v : VD} (h : plainV v = true) : v.2.2.length ≤ 256 := by
  unfold plainV at h; have := of_decide_eq_true h; omega
/-- an operation: its kind, name, source, function, arguments, gas, key -/
abbrev OD := Int × List UInt8 × List UInt8 × List UInt8 × List VD × Int × List UInt8
def argOk (v : VD) : Bool := decide (v.1 ≠ 0) && plainV v
def rightO (o : OD) : Bool := decide (1 ≤ o.1 ∧ o.1 ≤ 3 ∧ o.2.1.length ≤ 16 ∧ o.2.2.2.1.length ≤ 16 ∧ o.2.2.1.length ≤ 4097 ∧ o.2.2.2.2.2.2.length ≤ 65 ∧ o.2.2.2.2.1.length ≤ 16) && o.2.2.2.2.1.all argOk
def putO (o : OD) : List UInt8 := be 8 o.1 ++ (tx o.2.1 ++ (tx o.2.2.1 ++ (tx o.2.2.2.1 ++ ((be 8 o.2.2.2.2.1.length ++ o.2.2.2.2.1.flatMap putV) ++ (be 8 o.2.2.2.2.2.1 ++ tx o.2.2.2.2.2.2)))))
def getO : List UInt8 → Int × Int → OD × Int × Int := sq (nx numR 0) (sq (nx bytesR []) (sq (nx bytesR []) (sq (nx bytesR []) (sq (cnt 16 151 getV) (sq (nx numR 0) (nx bytesR []))))))
/-- no operation -/
def zeroO : OD := (0, [], [], [], [], 0, [])
def okO (o : OD) : Prop := I64 o.1 ∧ o.2.1.length ≤ 65536 ∧ o.2.2.1.length ≤ 65536 ∧ o.2.2.2.1.length ≤ 65536 ∧ (o.2.2.2.2.1.length ≤ 16 ∧ ∀ x ∈ o.2.2.2.2.1, okV x) ∧ I64 o.2.2.2.2.2.1 ∧ o.2.2.2.2.2.2.length ≤ 65536
theorem cod_op : Cod okO putO getO := cod_num.seq (cod_text.seq (cod_text.seq (cod_text.seq ((cod_val.count 16 151 (by decide) (by decide)).seq (cod_num.seq cod_text)))))
/-- are an operation's numbers ints? -/
def intO (o : OD) : Prop := I64 o.2.2.2.2.2.1 ∧ ∀ x ∈ o.2.2.2.2.1, I64 x.2.1
theorem okO_of {o : OD} (h : rightO o = true) (hi : intO o) : okO o := by
  unfold rightO at h
  rw [Bool.and_eq_true] at h
  obtain ⟨h1, h2⟩ := h
  have h1 := of_decide_eq_true h1
  refine ⟨by unfold I64; omega, by omega, by omega, by omega, ⟨by omega, fun x hx => ?_⟩, hi.1, by omega⟩
  have h3 := List.all_eq_true.1 h2 x hx
  unfold argOk at h3
  rw [Bool.and_eq_true] at h3
  have h4 := plain_le h3.2
  have h5 := of_decide_eq_true h3.2
  exact ⟨by unfold I64; omega, hi.2 x hx, by omega⟩
def readO (l : List UInt8) : OD × Int := whole rightO 151 zeroO getO l
def bytesO (o : OD) : List UInt8 × Int := if rightO o = true then (putO o, 0) else ([], 151)
theorem op_back {o : OD} (h : rightO o = true) (hi : intO o) : readO (putO o) = (o, 0) := whole_back cod_op h (okO_of h hi)
theorem op_kept {o : OD} {l : List UInt8} (h : readO l = (o, 0)) : rightO o = true ∧ putO o = l := ⟨(whole_kept cod_op (by decide) h).1, (whole_kept cod_op (by decide) h).2.2⟩
theorem op_cut {o : OD} {c : Nat} (h : rightO o = true) (hi : intO o) (hc : c < (putO o).length) : readO ((putO o).take c) = (zeroO, 11) := whole_cut cod_op (okO_of h hi) hc
/-- a reply: its error, place, value, trap, gas, whether it was found, its text -/
abbrev RD := Int × Int × VD × Int × Int × Bool × List UInt8
def rightR (r : RD) : Bool := plainV r.2.2.1 && decide (r.2.2.2.2.2.2.length ≤ 65536)
def putR (r : RD) : List UInt8 := be 8 r.1 ++ (be 8 r.2.1 ++ (putV r.2.2.1 ++ (be 8 r.2.2.2.1 ++ (be 8 r.2.2.2.2.1 ++ ([tb r.2.2.2.2.2.1] ++ tx r.2.2.2.2.2.2)))))
def getR2 : List UInt8 → Int × Int → RD × Int × Int := sq (nx numR 0) (sq (nx numR 0) (sq getV (sq (nx numR 0) (sq (nx numR 0) (sq (nx boolR false) (nx bytesR []))))))
def zeroR : RD := (0, 0, (0, 0, []), 0, 0, false, [])
def okR (r : RD) : Prop := I64 r.1 ∧ I64 r.2.1 ∧ okV r.2.2.1 ∧ I64 r.2.2.2.1 ∧ I64 r.2.2.2.2.1 ∧ True ∧ r.2.2.2.2.2.2.length ≤ 65536
theorem cod_reply : Cod okR putR getR2 := cod_num.seq (cod_num.seq (cod_val.seq (cod_num.seq (cod_num.seq (cod_bool.seq cod_text)))))
/-- are a reply's numbers ints? -/
def intR (r : RD) : Prop := I64 r.1 ∧ I64 r.2.1 ∧ I64 r.2.2.1.2.1 ∧ I64 r.2.2.2.1 ∧ I64 r.2.2.2.2.1
theorem okR_of {r : RD} (h : rightR r = true) (hi : intR r) : okR r := by
  unfold rightR at h
  rw [Bool.and_eq_true] at h
  have h1 := plain_le h.1
  have h2 := of_decide_eq_true h.1
  have h3 := of_decide_eq_true h.2
  obtain ⟨i1, i2, i3, i4, i5⟩ := hi
  exact ⟨i1, i2, ⟨by unfold I64; omega, i3, by omega⟩, i4, i5, trivial, h3⟩
def readR (l : List UInt8) : RD × Int := whole rightR 151 zeroR getR2 l
def bytesRp (r : RD) : List UInt8 × Int := if rightR r = true then (putR r, 0) else ([], 151)
theorem reply_back {r : RD} (h : rightR r = true) (hi : intR r) : readR (putR r) = (r, 0) := whole_back cod_reply h (okR_of h hi)
theorem reply_kept {r : RD} {l : List UInt8} (h : readR l = (r, 0)) : rightR r = true ∧ putR r = l := ⟨(whole_kept cod_reply (by decide) h).1, (whole_kept cod_reply (by decide) h).2.2⟩
theorem reply_cut {r : RD} {c : Nat} (h : rightR r = true) (hi : intR r) (hc : c < (putR r).length) : readR ((putR r).take c) = (zeroR, 11) := whole_cut cod_reply (okR_of h hi) hc
theorem putV_len (v : VD) : (putV v).length = 20 + v.2.2.length := by simp [putV, be_length, tx_length]; omega
theorem putO_len (o : OD) : (putO o).length = 40 + (o.2.1.length + o.2.2.1.length + o.2.2.2.1.length + o.2.2.2.2.2.2.length) + (o.2.2.2.2.1.flatMap putV).length := by
  simp only [putO, List.length_append, be_length, tx_length]; omega
theorem putR_len (r : RD) : (putR r).length = 57 + r.2.2.1.2.2.length + r.2.2.2.2.2.2.length := by
  simp only [putR, List.length_append, be_length, tx_length, putV_len, List.length_cons, List.length_nil]; omega
end Go.Cov
namespace Go.Cov
/-- the error at the end -/
def endR (n : Nat) (s : Int × Int) (is : Bool) : Int := if s.2 = 0 then (if s.1 = n ∧ is = true then 0 else 151) else s.2
theorem whole_end {α : Type} (right : α → Bool) (d : α) (get : List UInt8 → Int × Int → α × Int × Int) (l : List UInt8) {a : α} {s : Int × Int} (h : get l (0, 0) = (a, s)) : whole right 151 d get l = (if endR l.length s (right a) = 0 then a else d, endR l.length s (right a)) := by
  unfold whole endR
  rw [h]
  dsimp only
  by_cases h1 : s.2 = 0
  · by_cases h2 : s.1 = l.length ∧ right a = true
    · rw [if_pos h1, if_pos h2, if_pos h1, if_pos h2, if_pos rfl]
    · rw [if_pos h1, if_neg h2, if_pos h1, if_neg h2, if_neg (by decide)]
  · rw [if_neg h1, if_neg h1, if_neg h1]
end Go.Cov
namespace Go.Cov
theorem op_more {o : OD} (h : rightO o = true) (hi : intO o) (x : UInt8) : readO (putO o ++ [x]) = (zeroO, 151) := by
  have hB := cod_op.back [] o [x] (okO_of h hi)
  simp only [List.nil_append, List.length_nil, Int.natCast_zero, Int.zero_add] at hB
  unfold readO whole
  rw [hB]
  dsimp only
  rw [if_pos rfl, if_neg (fun hh => by have h1 := hh.1; rw [List.length_append, List.length_singleton] at h1; omega)]
theorem bytesO_ok {o : OD} (h : rightO o = true) : bytesO o = (putO o, 0) := by unfold bytesO; rw [if_pos h]
theorem bytesO_no {o : OD} (h : rightO o = false) : bytesO o = ([], 151) := by unfold bytesO; rw [if_neg (by rw [h]; decide)]
theorem bytesRp_ok {o : RD} (h : rightR o = true) : bytesRp o = (putR o, 0) := by unfold bytesRp; rw [if_pos h]
theorem bytesRp_no {o : RD} (h : rightR o = false) : bytesRp o = ([], 151) := by unfold bytesRp; rw [if_neg (by rw [h]; decide)]
def lookO : OD := (3, [], [], [], [], 0, [])
theorem look_right : rightO lookO = true := by decide
theorem look_int : intO lookO := ⟨by unfold I64 lookO; decide, fun x hx => by cases hx⟩
theorem look_len : (putO lookO).length = 40 := by rw [putO_len]; rfl
theorem zeroR_right : rightR zeroR = true := by decide
theorem zeroR_len : (putR zeroR).length = 57 := by rw [putR_len]; rfl
end Go.Cov
namespace Go.Cov
/-- alike -/
def sameR (r s : RD) : Bool := (decide (r.2.2.1 = s.2.2.1) && decide (r.2.2.2.1 = s.2.2.2.1) && decide (r.2.2.2.2.1 = s.2.2.2.2.1)) && decide (r.1 = s.1) && decide (r.2.1 = s.2.1) && decide (r.2.2.2.2.2.1 = s.2.2.2.2.2.1) && decide (r.2.2.2.2.2.2 = s.2.2.2.2.2.2)
theorem sameR_iff {r s : RD} : sameR r s = true ↔ r = s := by
  unfold sameR
  simp only [Bool.and_eq_true, decide_eq_true_eq]
  constructor
  · rintro ⟨⟨⟨⟨⟨⟨h3, h4⟩, h5⟩, h1⟩, h2⟩, h6⟩, h7⟩
    exact Prod.ext h1 (Prod.ext h2 (Prod.ext h3 (Prod.ext h4 (Prod.ext h5 (Prod.ext h6 h7)))))
  · rintro rfl; exact ⟨⟨⟨⟨⟨⟨rfl, rfl⟩, rfl⟩, rfl⟩, rfl⟩, rfl⟩, rfl⟩
def sameO (o p : OD) : Bool := decide (o.1 = p.1) && decide (o.2.1 = p.2.1) && decide (o.2.2.1 = p.2.2.1) && decide (o.2.2.2.1 = p.2.2.2.1) && decide (o.2.2.2.2.2.1 = p.2.2.2.2.2.1) && decide (o.2.2.2.2.2.2 = p.2.2.2.2.2.2) && decide (o.2.2.2.2.1 = p.2.2.2.2.1)
theorem sameO_iff {o p : OD} : sameO o p = true ↔ o = p := by
  unfold sameO
  simp only [Bool.and_eq_true, decide_eq_true_eq]
  constructor
  · rintro ⟨⟨⟨⟨⟨⟨h1, h2⟩, h3⟩, h4⟩, h6⟩, h7⟩, h5⟩
    exact Prod.ext h1 (Prod.ext h2 (Prod.ext h3 (Prod.ext h4 (Prod.ext h5 (Prod.ext h6 h7)))))
  · rintro rfl; exact ⟨⟨⟨⟨⟨⟨rfl, rfl⟩, rfl⟩, rfl⟩, rfl⟩, rfl⟩, rfl⟩
end Go.Cov


/-! messages as data: their bytes, their reading. Plain laws -/
namespace Go.Cov
open Go.RowKit
/-- a message's ten numbers -/
abbrev N10 := Int × Int × Int × Int × Int × Int × Int × Int × Int × Int
def put10 (n : N10) : List UInt8 := be 8 n.1 ++ (be 8 n.2.1 ++ (be 8 n.2.2.1 ++ (be 8 n.2.2.2.1 ++ (be 8 n.2.2.2.2.1 ++ (be 8 n.2.2.2.2.2.1 ++ (be 8 n.2.2.2.2.2.2.1 ++ (be 8 n.2.2.2.2.2.2.2.1 ++ (be 8 n.2.2.2.2.2.2.2.2.1 ++ be 8 n.2.2.2.2.2.2.2.2.2))))))))
def get10 : List UInt8 → Int × Int → N10 × Int × Int := sq (nx numR 0) (sq (nx numR 0) (sq (nx numR 0) (sq (nx numR 0) (sq (nx numR 0) (sq (nx numR 0) (sq (nx numR 0) (sq (nx numR 0) (sq (nx numR 0) (nx numR 0)))))))))
def ok10 (n : N10) : Prop := I64 n.1 ∧ I64 n.2.1 ∧ I64 n.2.2.1 ∧ I64 n.2.2.2.1 ∧ I64 n.2.2.2.2.1 ∧ I64 n.2.2.2.2.2.1 ∧ I64 n.2.2.2.2.2.2.1 ∧ I64 n.2.2.2.2.2.2.2.1 ∧ I64 n.2.2.2.2.2.2.2.2.1 ∧ I64 n.2.2.2.2.2.2.2.2.2
theorem cod_10 : Cod ok10 put10 get10 := cod_num.seq (cod_num.seq (cod_num.seq (cod_num.seq (cod_num.seq (cod_num.seq (cod_num.seq (cod_num.seq (cod_num.seq cod_num))))))))
/-- a message: its numbers (kind, from, to, view, num, commit, nonce, normal, client, req), body, whether it has a log, the log's start, its entries, its checkpoint -/
abbrev MD := N10 × List UInt8 × Bool × Int × List VD × List UInt8
def putM (m : MD) : List UInt8 := put10 m.1 ++ (tx m.2.1 ++ ([tb m.2.2.1] ++ (be 8 m.2.2.2.1 ++ ((be 8 m.2.2.2.2.1.length ++ m.2.2.2.2.1.flatMap putV) ++ tx m.2.2.2.2.2))))
def getM : List UInt8 → Int × Int → MD × Int × Int := sq get10 (sq (nx bytesR []) (sq (nx boolR false) (sq (nx numR 0) (sq (cnt 64 151 getV) (nx bytesR [])))))
def okM (m : MD) : Prop := ok10 m.1 ∧ m.2.1.length ≤ 65536 ∧ True ∧ I64 m.2.2.2.1 ∧ (m.2.2.2.2.1.length ≤ 64 ∧ ∀ x ∈ m.2.2.2.2.1, okV x) ∧ m.2.2.2.2.2.length ≤ 65536
theorem cod_msg : Cod okM putM getM := cod_10.seq (cod_text.seq (cod_bool.seq (cod_num.seq ((cod_val.count 64 151 (by decide) (by decide)).seq cod_text))))
/-- may a log be one? -/
def rightLog (start : Int) (es : List VD) : Bool := decide (0 ≤ start ∧ es.length ≤ 64 ∧ start ≤ 1099511627776 - (es.length : Int)) && es.all (fun x => decide (x.2.2.length ≤ 8192))
def span (n : Int) : Bool := decide (0 ≤ n ∧ n ≤ 1099511627776)
def node (n : Int) : Bool := decide (-1 ≤ n ∧ n ≤ 6)
def rightM (m : MD) : Bool := decide (1 ≤ m.1.1 ∧ m.1.1 ≤ 12) && node m.1.2.1 && node m.1.2.2.1 && span m.1.2.2.2.1 && span m.1.2.2.2.2.1 && span m.1.2.2.2.2.2.1 && span m.1.2.2.2.2.2.2.2.1 && rightLog m.2.2.2.1 m.2.2.2.2.1 && decide (m.2.1.length ≤ 8192) && decide (m.2.2.2.2.2.length ≤ 65536)
def zero10 : N10 := (0, 0, 0, 0, 0, 0, 0, 0, 0, 0)
def zeroM : MD := (zero10, [], false, 0, [], [])
/-- are a message's other numbers ints? -/
def intM (m : MD) : Prop := I64 m.1.2.2.2.2.2.2.1 ∧ I64 m.1.2.2.2.2.2.2.2.2.1 ∧ I64 m.1.2.2.2.2.2.2.2.2.2 ∧ ∀ x ∈ m.2.2.2.2.1, I64 x.1 ∧ I64 x.2.1
theorem okM_of {m : MD} (h : rightM m = true) (hi : intM m) : okM m := by
  unfold rightM rightLog span node at h
  simp only [Bool.and_eq_true, decide_eq_true_eq, List.all_eq_true] at h
  obtain ⟨⟨⟨⟨⟨⟨⟨⟨⟨h1, h2⟩, h3⟩, h4⟩, h5⟩, h6⟩, h7⟩, h8, h9⟩, h10⟩, h11⟩ := h
  obtain ⟨i1, i2, i3, i4⟩ := hi
  refine ⟨⟨?_, ?_, ?_, ?_, ?_, ?_, i1, ?_, i2, i3⟩, by omega, trivial, ?_, ⟨by omega, fun x hx => ⟨(i4 x hx).1, (i4 x hx).2, ?_⟩⟩, by omega⟩
  all_goals first | (unfold I64; omega) | (have := h9 x hx; omega)
def readM (l : List UInt8) : MD × Int := whole rightM 151 zeroM getM l
theorem msg_back {m : MD} (h : rightM m = true) (hi : intM m) : readM (putM m) = (m, 0) := whole_back cod_msg h (okM_of h hi)
theorem msg_kept {m : MD} {l : List UInt8} (h : readM l = (m, 0)) : rightM m = true ∧ putM m = l := ⟨(whole_kept cod_msg (by decide) h).1, (whole_kept cod_msg (by decide) h).2.2⟩
theorem put10_len (n : N10) : (put10 n).length = 80 := by simp only [put10, List.length_append, be_length]
theorem putM_len (m : MD) : (putM m).length = 105 + m.2.1.length + m.2.2.2.2.2.length + (m.2.2.2.2.1.flatMap putV).length := by
  simp only [putM, List.length_append, be_length, tx_length, put10_len, List.length_cons, List.length_nil]; omega
end Go.Cov


/-
  Lemmas of this claim's own: rows as places; a reader beside places. Over any program.
-/
namespace Go.Cov
open Go.RowKit
/-- a row's cells as places, from an index on -/
def rowPl (b : Nat) : Nat → List Value → List (Addr × Value)
  | _, [] => []
  | i, v :: vs => (⟨b, i, none⟩, v) :: rowPl b (i + 1) vs
theorem rowPl_at (b : Nat) : ∀ (vs : List Value) (i j : Nat), (rowPl b i vs)[j]? = (vs[j]?).map (fun v => ((⟨b, i + j, none⟩ : Addr), v))
  | [], i, j => by simp [rowPl]
  | v :: vs, i, 0 => by simp [rowPl]
  | v :: vs, i, j + 1 => by
    rw [rowPl, List.getElem?_cons_succ, rowPl_at b vs (i + 1) j, List.getElem?_cons_succ, show i + 1 + j = i + (j + 1) by omega]
theorem rowPl_len (b : Nat) : ∀ (vs : List Value) (i : Nat), (rowPl b i vs).length = vs.length
  | [], i => rfl
  | v :: vs, i => by rw [rowPl, List.length_cons, rowPl_len b vs (i + 1), List.length_cons]
theorem Mem.of_row {w : World} {b : Nat} {vs : List Value} (h : Row w b vs) : Mem w (rowPl b 0 vs) := by
  refine ⟨fun i p v hi => ?_, fun i j p q u v hi hj hij => ?_⟩
  · rw [rowPl_at] at hi
    obtain ⟨x, hx, he⟩ := Option.map_eq_some_iff.1 hi
    injection he with e1 e2
    subst e1 e2
    rw [Nat.zero_add]
    exact h.2 i x hx
  · rw [rowPl_at] at hi hj
    obtain ⟨x, hx, he⟩ := Option.map_eq_some_iff.1 hi
    obtain ⟨y, hy, he'⟩ := Option.map_eq_some_iff.1 hj
    injection he with e1 e2
    injection he' with e1' e2'
    subst e1 e1'
    intro e
    injection e with _ e
    omega
/-- two lists of places whose blocks are unlike -/
theorem Mem.app {w : World} {ps qs : List (Addr × Value)} (h : Mem w ps) (g : Mem w qs) (hd : ∀ (i j : Nat) (p q : Addr) (u v : Value), ps[i]? = some (p, u) → qs[j]? = some (q, v) → p.block ≠ q.block) : Mem w (ps ++ qs) := by
  refine ⟨fun i p v hi => ?_, fun i j p q u v hi hj hij => ?_⟩
  · rcases Nat.lt_or_ge i ps.length with hl | hl
    · rw [List.getElem?_append_left hl] at hi; exact h.cell i p v hi
    · rw [List.getElem?_append_right hl] at hi; exact g.cell _ p v hi
  · rcases Nat.lt_or_ge i ps.length with hl | hl <;> rcases Nat.lt_or_ge j ps.length with hm | hm
    · rw [List.getElem?_append_left hl] at hi; rw [List.getElem?_append_left hm] at hj; exact h.nd i j p q u v hi hj hij
    · rw [List.getElem?_append_left hl] at hi; rw [List.getElem?_append_right hm] at hj; exact fun e => hd _ _ _ _ _ _ hi hj (by rw [e])
    · rw [List.getElem?_append_right hl] at hi; rw [List.getElem?_append_left hm] at hj; exact fun e => hd _ _ _ _ _ _ hj hi (by rw [e])
    · rw [List.getElem?_append_right hl] at hi; rw [List.getElem?_append_right hm] at hj; exact g.nd _ _ p q u v hi hj (by omega)
theorem rowPl_block {b i j : Nat} {vs : List Value} {p : Addr} {u : Value} (h : (rowPl b i vs)[j]? = some (p, u)) : p.block = b ∧ p.spot = none := by
  rw [rowPl_at] at h
  obtain ⟨x, hx, he⟩ := Option.map_eq_some_iff.1 h
  injection he with e1 e2
  subst e1
  exact ⟨rfl, rfl⟩
theorem Mem.left {w : World} {ps qs : List (Addr × Value)} (h : Mem w (ps ++ qs)) : Mem w ps :=
  ⟨fun i p v hi => h.cell i p v (by rw [List.getElem?_append_left (List.getElem?_eq_some_iff.1 hi).1]; exact hi), fun i j p q u v hi hj hij => h.nd i j p q u v (by rw [List.getElem?_append_left (List.getElem?_eq_some_iff.1 hi).1]; exact hi) (by rw [List.getElem?_append_left (List.getElem?_eq_some_iff.1 hj).1]; exact hj) hij⟩
theorem Mem.row {w : World} {b : Nat} {vs : List Value} (h : Mem w (rowPl b 0 vs)) (hv : vs ≠ []) : Row w b vs := by
  have hc : ∀ i v, vs[i]? = some v → w.cell? ⟨b, i, none⟩ = some v ∧ w.frozen? ⟨b, i, none⟩ = false := fun i v hi => h.cell i ⟨b, i, none⟩ v (by rw [rowPl_at, hi, Nat.zero_add]; rfl)
  refine ⟨?_, hc⟩
  cases vs with
  | nil => exact absurd rfl hv
  | cons v vs => exact cell_lt (hc 0 v rfl).1
theorem Mem.gs {B : Nat → Prop} {w w1 : World} {ps : List (Addr × Value)} (h : Mem w ps) (hG : Gs B w w1) (hb : ∀ (i : Nat) (p : Addr) (v : Value), ps[i]? = some (p, v) → ¬ B p.block) : Mem w1 ps :=
  ⟨fun i p v hi => by
    have hk := hG.block p.block (h.lt hi) (hb i p v hi)
    exact ⟨(World.cell?_of_block hk).trans (h.cell i p v hi).1, (World.frozen?_of_block hk).trans (h.cell i p v hi).2⟩, h.nd⟩
theorem Row.gs {B : Nat → Prop} {w w1 : World} {b : Nat} {vs : List Value} (h : Row w b vs) (hG : Gs B w w1) (hb : ¬ B b) : Row w1 b vs := h.keep (hG.block b h.1 hb) hG.size
theorem Gs.own {B : Nat → Prop} {w w1 : World} {e : TypeId} {base n size : Nat} {v : Value} {xs : List Value} (hG : Gs B w w1) (h : w.ownsRow base e size v n xs) (hb : ∀ k, base ≤ k → ¬ B k) : w1.ownsRow base e size v n xs := by
  refine ⟨h.1, ?_⟩
  have h0 := fun k (hk : v.ownBlock = some k) => own_lt h hk
  rcases h.2 with h2 | ⟨g, cap, cur, hv, hg, hh, r⟩
  · exact .inl h2
  · have h1 := h0 g (by rw [hv]; rfl)
    exact .inr ⟨g, cap, cur, hv, hg, (hG.block g h1.2 (hb g h1.1)).trans hh, r⟩
theorem Gs.sl {B : Nat → Prop} {w w1 : World} {v : Value} {m : List UInt8} (hG : Gs B w w1) (h : Sl w v m) (hb : ∀ k, v.ownBlock = some k → ¬ B k) : Sl w1 v m := by
  obtain ⟨A, c, rfl, h1, h2, h3⟩ := h
  exact ⟨A, c, rfl, h1, h2, hG.rd h3 (fun _ ad ha => hb _ (by rw [ha]; rfl))⟩
theorem Gs.els {B : Nat → Prop} {α : Type} {T : El α} {base : Nat} {e : TypeId} {v : Value} {xs : List α} {W1 W2 : World} (hG : Gs B W1 W2) (h : OwnEls T W1 base e v xs) (hn : NewE T base xs) (hb : ∀ k, base ≤ k → ¬ B k) : OwnEls T W2 base e v xs :=
  ⟨hG.own h.1 hb, fun a ha p hp => ⟨hG.sl (h.2 a ha p hp).1 (fun j hj => hb j (hn a ha p hp j hj)), (h.2 a ha p hp).2⟩⟩
theorem Gs.mono {B C : Nat → Prop} {w w1 : World} (h : Gs B w w1) (hBC : ∀ k, B k → C k) : Gs C w w1 := ⟨h.os, h.tape, h.output, h.size, fun k hk hn => h.block k hk (fun hb => hn (hBC k hb))⟩
theorem Rr.gs {B : Nat → Prop} {w w1 : World} {b c : Nat} {A : Option Addr} {l : List UInt8} {s : Int × Int} (h : Rr w b A c l s) (hG : Gs B w w1) (hb : ¬ B b) (hA : l ≠ [] → ∀ ad, A = some ad → ¬ B ad.block) : Rr w1 b A c l s :=
  ⟨h.row.gs hG hb, hG.rd h.rd (fun hx ad ha => hA (fun e => hx (by rw [e]; rfl)) ad ha), h.off, h.cap, h.len⟩
/-- a part read into a place that holds the zero value -/
theorem intoS_nx {α : Type} (f : List UInt8 → Int → α × Int × Int) (F : α → Value) (d : α) (l : List UInt8) (ps : List (Addr × Value)) (j : Nat) (js : List Nat) (s : Int × Int) {q : Addr} (h : ps[j]? = some (q, F d)) :
    intoS f F l ps (j :: js) s = intoS f F l (ps.set j (q, F (nx f d l s).1)) js (nx f d l s).2 := by
  by_cases hz : s.2 = 0
  · rw [intoS, if_pos hz, putAt_of h, nx, if_pos hz]
  · have e : nx f d l s = (d, s) := by rw [nx, if_neg hz]
    rw [intoS_err _ _ _ _ _ _ hz, e, intoS_err _ _ _ _ _ _ hz]
    congr 1
    apply List.ext_getElem?
    intro i
    have hl := (List.getElem?_eq_some_iff.1 h).1
    by_cases hij : i = j
    · subst hij; rw [List.getElem?_set_self hl, h]
    · rw [List.getElem?_set_ne (Ne.symm hij)]
end Go.Cov
namespace Go.Cov
open Go.RowKit
/-- between two blocks -/
def Bt (a b : Nat) (k : Nat) : Prop := a ≤ k ∧ k ≤ b
/-- a result's row; places, and a reader behind them, in the blocks from mb to rb; X is what else is kept -/
structure Pg (w0 W : World) (res mb rb : Nat) (zs : List Value) (ps : List (Addr × Value)) (A : Option Addr) (c : Nat) (l : List UInt8) (s : Int × Int) (X : World → Prop) : Prop where
  r1 : Row W res zs
  mem : Mem W ps
  rr : Rr W rb A c l s
  x : X W
  kx : ∀ W1 W2, Gs (Bt mb rb) W1 W2 → rb < W1.heap.size → X W1 → X W2
  ord : w0.heap.size ≤ res ∧ res < mb ∧ mb ≤ rb
  inp : ∀ (i : Nat) (p : Addr) (v : Value), ps[i]? = some (p, v) → mb ≤ p.block ∧ p.block < rb ∧ p.spot = none
  old : l ≠ [] → ∀ ad, A = some ad → ad.block < mb
  below : Below w0.heap.size w0 W
section
variable {w0 W W1 : World} {res mb rb c : Nat} {zs : List Value} {ps qs : List (Addr × Value)} {A : Option Addr} {l : List UInt8} {s s1 : Int × Int} {X : World → Prop}
theorem Pg.next (h : Pg w0 W res mb rb zs ps A c l s X) (hm : Mem W1 qs) (hr : Rr W1 rb A c l s1) (hG : Gs (Bt mb rb) W W1) (hq : ∀ (i : Nat) (p : Addr) (v : Value), qs[i]? = some (p, v) → mb ≤ p.block ∧ p.block < rb ∧ p.spot = none) : Pg w0 W1 res mb rb zs qs A c l s1 X :=
  ⟨h.r1.gs hG (fun hb => by have := hb.1; have := h.ord; omega), hm, hr, h.kx _ _ hG h.rr.row.1 h.x, h.kx, h.ord, hq, h.old, h.below.trans (hG.below (fun k hk => by have := hk.1; have := h.ord; omega) h.below.size)⟩
theorem Pg.on (h : Pg w0 W res mb rb zs ps A c l s X) (hb : Below W.heap.size W W1) : Pg w0 W1 res mb rb zs ps A c l s X :=
  ⟨h.r1.below hb, h.mem.below hb, h.rr.below hb, h.kx _ _ (Gs.of_below hb) h.rr.row.1 h.x, h.kx, h.ord, h.inp, h.old, below_step h.below hb⟩
theorem Pg.set (h : Pg w0 W res mb rb zs ps A c l s X) (j : Nat) {q : Addr} {u : Value} (hj : ps[j]? = some (q, u)) (x : Value) : Pg w0 (W.setCell q x) res mb rb zs (ps.set j (q, x)) A c l s X := by
  obtain ⟨h1, h2, h3⟩ := h.inp j q u hj
  obtain ⟨qb, qo, qs⟩ := q
  dsimp only at h1 h2 h3
  subst h3
  have hm := h.mem.set hj x
  have hr := h.rr.gro (Gro.set qb qb qo W x) (by omega) (fun hl ad ha => by have := h.old hl ad ha; omega)
  refine h.next hm hr (Gs.set (p := ⟨qb, qo, none⟩) ⟨h1, by show qb ≤ rb; omega⟩ x) (fun i p v hi => ?_)
  by_cases hij : i = j
  · subst hij
    rw [List.getElem?_set_self (List.getElem?_eq_some_iff.1 hj).1] at hi
    injection hi with hi
    injection hi with e1 e2
    subst e1
    exact ⟨h1, h2, rfl⟩
  · rw [List.getElem?_set_ne (Ne.symm hij)] at hi
    exact h.inp i p v hi
theorem Pg.err (h : Pg w0 W res mb rb zs ps A c l s X) (x : Int) : Pg w0 (W.setCell ⟨rb, 2, none⟩ (.int .i64 x)) res mb rb zs ps A c l (s.1, x) X := by
  have hmr := h.ord.2.2
  exact h.next (h.mem.gro (Gro.set rb rb 2 W _) (fun i p v hi => by have := h.inp i p v hi; omega)) (h.rr.set2 x) (Gs.set (p := ⟨rb, 2, none⟩) ⟨hmr, Nat.le_refl _⟩ _) h.inp
theorem Pg.more (h : Pg w0 W res mb rb zs ps A c l s X) {Y : World → Prop} (hy : Y W) (hk : ∀ W1 W2, Gs (Bt mb rb) W1 W2 → rb < W1.heap.size → Y W1 → Y W2) : Pg w0 W res mb rb zs ps A c l s (fun W => X W ∧ Y W) :=
  ⟨h.r1, h.mem, h.rr, ⟨h.x, hy⟩, fun W1 W2 hG hs hxy => ⟨h.kx W1 W2 hG hs hxy.1, hk W1 W2 hG hs hxy.2⟩, h.ord, h.inp, h.old, h.below⟩
theorem Pg.to (h : Pg w0 W res mb rb zs ps A c l s X) {Y : World → Prop} (hy : Y W) (hk : ∀ W1 W2, Gs (Bt mb rb) W1 W2 → rb < W1.heap.size → Y W1 → Y W2) : Pg w0 W res mb rb zs ps A c l s Y :=
  ⟨h.r1, h.mem, h.rr, hy, hk, h.ord, h.inp, h.old, h.below⟩
theorem Pg.cell (h : Pg w0 W res mb rb zs ps A c l s X) (j : Nat) {q : Addr} {u : Value} (hj : ps[j]? = some (q, u)) : W.cell? q = some u := (h.mem.cell j q u hj).1
theorem Pg.froz (h : Pg w0 W res mb rb zs ps A c l s X) (j : Nat) {q : Addr} {u : Value} (hj : ps[j]? = some (q, u)) : W.frozen? q = false := (h.mem.cell j q u hj).2
theorem Pg.grown {row : Option Nat} (h : Pg w0 W res mb rb zs ps A c l s X) (hg : W.grownBy W1 row) (hr : ∀ k, row = some k → rb < k) (hx : X W1) : Pg w0 W1 res mb rb zs ps A c l s X := by
  have hlt := h.rr.row.1
  refine ⟨h.r1.grown hg (fun e => ?_), h.mem.grown hg (fun i p v hi e => ?_), h.rr.grown hg (fun e => ?_) (fun hl ad ha e => ?_), hx, h.kx, h.ord, h.inp, h.old, h.below.grown hg h.below.size (fun k hk => ?_)⟩
  · have h2 := hr _ e; have := h.ord; omega
  · have h2 := hr _ e; have := h.inp i p v hi; omega
  · have h2 := hr _ e; omega
  · have h2 := hr _ e; have := h.old hl ad ha; have := h.ord; omega
  · have h2 := hr _ hk; have := h.ord; omega
theorem keep_own' {e : TypeId} {n size : Nat} {v : Value} {xs : List Value} {W1 W2 : World} (hG : Gs (Bt mb rb) W1 W2) (h : W1.ownsRow (rb + 1) e size v n xs) : W2.ownsRow (rb + 1) e size v n xs := hG.own h (fun k hk hb => by have := hb.2; omega)
end
end Go.Cov
namespace Go.Cov
open Go.RowKit
/-- a message under way: its cells, and four numbers beside it -/
def pl (mb : Nat) (n : N10) (vb : Value) (has : Bool) (st : Int) (ve vk : Value) (many : Int) : List (Addr × Value) :=
  rowPl mb 0 [.int .i64 0, .int .i64 0, .int .i64 0, .int .i64 n.2.2.2.1, .int .i64 n.2.2.2.2.1, .int .i64 n.2.2.2.2.2.1, .int .i64 n.2.2.2.2.2.2.1, .int .i64 n.2.2.2.2.2.2.2.1, .int .i64 n.2.2.2.2.2.2.2.2.1, .int .i64 n.2.2.2.2.2.2.2.2.2, vb, .bool has, .int .i64 st, ve, vk] ++ (rowPl (mb + 1) 0 [.int .i64 n.1] ++ (rowPl (mb + 2) 0 [.int .i64 n.2.1] ++ (rowPl (mb + 3) 0 [.int .i64 n.2.2.1] ++ rowPl (mb + 4) 0 [.int .i64 many])))
theorem row_block {b : Nat} {vs : List Value} : ∀ (i : Nat) (p : Addr) (v : Value), (rowPl b 0 vs)[i]? = some (p, v) → p.block = b ∧ p.spot = none := fun _ _ _ h => rowPl_block h
theorem app_block {ps qs : List (Addr × Value)} {C : Addr → Prop} (h : ∀ (i : Nat) (p : Addr) (v : Value), ps[i]? = some (p, v) → C p) (g : ∀ (i : Nat) (p : Addr) (v : Value), qs[i]? = some (p, v) → C p) : ∀ (i : Nat) (p : Addr) (v : Value), (ps ++ qs)[i]? = some (p, v) → C p := fun i p v hi => by
  rcases Nat.lt_or_ge i ps.length with hl | hl
  · rw [List.getElem?_append_left hl] at hi; exact h i p v hi
  · rw [List.getElem?_append_right hl] at hi; exact g _ p v hi
theorem pl_in {mb : Nat} {n : N10} {vb : Value} {has : Bool} {st : Int} {ve vk : Value} {many : Int} : ∀ (i : Nat) (p : Addr) (v : Value), (pl mb n vb has st ve vk many)[i]? = some (p, v) → mb ≤ p.block ∧ p.block < mb + 5 ∧ p.spot = none := by
  unfold pl
  refine app_block (fun i p v hi => ?_) (app_block (fun i p v hi => ?_) (app_block (fun i p v hi => ?_) (app_block (fun i p v hi => ?_) (fun i p v hi => ?_)))) <;>
    (obtain ⟨h1, h2⟩ := row_block i p v hi; exact ⟨by omega, by omega, h2⟩)
theorem pl_mem {w : World} {mb : Nat} {n : N10} {vb : Value} {has : Bool} {st : Int} {ve vk : Value} {many : Int}
    (h0 : Row w mb [.int .i64 0, .int .i64 0, .int .i64 0, .int .i64 n.2.2.2.1, .int .i64 n.2.2.2.2.1, .int .i64 n.2.2.2.2.2.1, .int .i64 n.2.2.2.2.2.2.1, .int .i64 n.2.2.2.2.2.2.2.1, .int .i64 n.2.2.2.2.2.2.2.2.1, .int .i64 n.2.2.2.2.2.2.2.2.2, vb, .bool has, .int .i64 st, ve, vk])
    (h1 : Row w (mb + 1) [.int .i64 n.1]) (h2 : Row w (mb + 2) [.int .i64 n.2.1]) (h3 : Row w (mb + 3) [.int .i64 n.2.2.1]) (h4 : Row w (mb + 4) [.int .i64 many]) : Mem w (pl mb n vb has st ve vk many) := by
  have m1 := (Mem.of_row h3).app (Mem.of_row h4) (fun i j p q u v hi hj e => by have := (rowPl_block hi).1; have := (rowPl_block hj).1; omega)
  have k1 : ∀ (i : Nat) (p : Addr) (v : Value), (rowPl (mb + 3) 0 [.int .i64 n.2.2.1] ++ rowPl (mb + 4) 0 [.int .i64 many])[i]? = some (p, v) → mb + 3 ≤ p.block := app_block (fun i p v hi => by have := (rowPl_block hi).1; omega) (fun i p v hi => by have := (rowPl_block hi).1; omega)
  have m2 := (Mem.of_row h2).app m1 (fun i j p q u v hi hj e => by have := (rowPl_block hi).1; have := k1 _ _ _ hj; omega)
  have k2 : ∀ (i : Nat) (p : Addr) (v : Value), (rowPl (mb + 2) 0 [.int .i64 n.2.1] ++ (rowPl (mb + 3) 0 [.int .i64 n.2.2.1] ++ rowPl (mb + 4) 0 [.int .i64 many]))[i]? = some (p, v) → mb + 2 ≤ p.block := app_block (fun i p v hi => by have := (rowPl_block hi).1; omega) (fun i p v hi => by have := k1 _ _ _ hi; omega)
  have m3 := (Mem.of_row h1).app m2 (fun i j p q u v hi hj e => by have := (rowPl_block hi).1; have := k2 _ _ _ hj; omega)
  have k3 : ∀ (i : Nat) (p : Addr) (v : Value), (rowPl (mb + 1) 0 [.int .i64 n.1] ++ (rowPl (mb + 2) 0 [.int .i64 n.2.1] ++ (rowPl (mb + 3) 0 [.int .i64 n.2.2.1] ++ rowPl (mb + 4) 0 [.int .i64 many])))[i]? = some (p, v) → mb + 1 ≤ p.block := app_block (fun i p v hi => by have := (rowPl_block hi).1; omega) (fun i p v hi => by have := k2 _ _ _ hi; omega)
  exact (Mem.of_row h0).app m3 (fun i j p q u v hi hj e => by have := (rowPl_block hi).1; have := k3 _ _ _ hj; omega)
/-- the ten numbers -/
theorem into10 (l : List UInt8) (mb : Nat) (vb : Value) (has : Bool) (st : Int) (ve vk : Value) (many : Int) (s : Int × Int) :
    intoS (fun l a => getR l a 8) (Value.int .i64) l (pl mb zero10 vb has st ve vk many) [15, 16, 17, 3, 4, 5, 6, 7, 8, 9] s = (pl mb (get10 l s).1 vb has st ve vk many, (get10 l s).2) := by
  rw [intoS_nx _ _ 0 l _ 15 _ s rfl, intoS_nx _ _ 0 l _ 16 _ _ rfl, intoS_nx _ _ 0 l _ 17 _ _ rfl, intoS_nx _ _ 0 l _ 3 _ _ rfl, intoS_nx _ _ 0 l _ 4 _ _ rfl, intoS_nx _ _ 0 l _ 5 _ _ rfl, intoS_nx _ _ 0 l _ 6 _ _ rfl, intoS_nx _ _ 0 l _ 7 _ _ rfl, intoS_nx _ _ 0 l _ 8 _ _ rfl, intoS_nx _ _ 0 l _ 9 _ _ rfl]
  rfl
theorem into_has (l : List UInt8) (mb : Nat) (n : N10) (vb : Value) (st : Int) (ve vk : Value) (many : Int) (s : Int × Int) :
    intoS (fun l a => boolR l a) Value.bool l (pl mb n vb false st ve vk many) [11] s = (pl mb n vb (nx boolR false l s).1 st ve vk many, (nx boolR false l s).2) := by
  rw [intoS_nx _ _ false l _ 11 _ s rfl]
  rfl
theorem into_many (l : List UInt8) (mb : Nat) (n : N10) (vb : Value) (has : Bool) (ve vk : Value) (s : Int × Int) :
    intoS (fun l a => getR l a 8) (Value.int .i64) l (pl mb n vb has 0 ve vk 0) [12, 18] s = (pl mb n vb has (nx numR 0 l s).1 ve vk (nx numR 0 l (nx numR 0 l s).2).1, (nx numR 0 l (nx numR 0 l s).2).2) := by
  rw [intoS_nx _ _ 0 l _ 12 _ s rfl, intoS_nx _ _ 0 l _ 18 _ _ rfl]
  rfl
/-- an entry under way -/
theorem into_en (l : List UInt8) (xb : Nat) (v : Value) (s : Int × Int) :
    intoS (fun l a => getR l a 8) (Value.int .i64) l (rowPl xb 0 [.int .i64 0, .int .i64 0, v]) [0, 1] s = (rowPl xb 0 [.int .i64 (nx numR 0 l s).1, .int .i64 (nx numR 0 l (nx numR 0 l s).2).1, v], (nx numR 0 l (nx numR 0 l s).2).2) := by
  rw [intoS_nx _ _ 0 l _ 0 _ s rfl, intoS_nx _ _ 0 l _ 1 _ _ rfl]
  rfl
theorem size_alloc1 {w : World} {o : Obj} : (w.alloc o).heap.size = w.heap.size + 1 := Array.size_push ..
/-- the six variables, made one behind the other -/
theorem pg_new {w w2 : World} {res c : Nat} {zs : List Value} {A : Option Addr} {l : List UInt8} (t1 t2 t6 : TypeId) (R : Row w2 res zs) (hr : Rd w2 A (l.map byt)) (hc : l.length ≤ c) (hl : l.length ≤ 140737488351236) (hb : Below w.heap.size w w2) (ho : w.heap.size ≤ res) :
    Pg w ((((((w2.alloc (.cells #[.int .i64 0, .int .i64 0, .int .i64 0, .int .i64 0, .int .i64 0, .int .i64 0, .int .i64 0, .int .i64 0, .int .i64 0, .int .i64 0, .slice none 0 0, .bool false, .int .i64 0, .slice none 0 0, .slice none 0 0] t1)).alloc (.cells #[.int .i64 0] t2)).alloc (.cells #[.int .i64 0] t2)).alloc (.cells #[.int .i64 0] t2)).alloc (.cells #[.int .i64 0] t2)).alloc (.cells #[.slice A l.length c, .int .i64 0, .int .i64 0] t6))
      res w2.heap.size (w2.heap.size + 5) zs (pl w2.heap.size zero10 (.slice none 0 0) false 0 (.slice none 0 0) (.slice none 0 0) 0) A c l (0, 0) (fun _ => True) := by
  have hA : l ≠ [] → ∀ ad, A = some ad → ad.block < w2.heap.size := rd_lt hr
  have R1 := Row.new w2 [.int .i64 0, .int .i64 0, .int .i64 0, .int .i64 0, .int .i64 0, .int .i64 0, .int .i64 0, .int .i64 0, .int .i64 0, .int .i64 0, .slice none 0 0, .bool false, .int .i64 0, .slice none 0 0, .slice none 0 0] t1
  have b1 := below_alloc w2 (.cells #[.int .i64 0, .int .i64 0, .int .i64 0, .int .i64 0, .int .i64 0, .int .i64 0, .int .i64 0, .int .i64 0, .int .i64 0, .int .i64 0, .slice none 0 0, .bool false, .int .i64 0, .slice none 0 0, .slice none 0 0] t1)
  have z1 : (w2.alloc (.cells #[.int .i64 0, .int .i64 0, .int .i64 0, .int .i64 0, .int .i64 0, .int .i64 0, .int .i64 0, .int .i64 0, .int .i64 0, .int .i64 0, .slice none 0 0, .bool false, .int .i64 0, .slice none 0 0, .slice none 0 0] t1)).heap.size = w2.heap.size + 1 := size_alloc1
  change Row (w2.alloc (.cells #[.int .i64 0, .int .i64 0, .int .i64 0, .int .i64 0, .int .i64 0, .int .i64 0, .int .i64 0, .int .i64 0, .int .i64 0, .int .i64 0, .slice none 0 0, .bool false, .int .i64 0, .slice none 0 0, .slice none 0 0] t1)) _ _ at R1
  generalize w2.alloc (.cells #[.int .i64 0, .int .i64 0, .int .i64 0, .int .i64 0, .int .i64 0, .int .i64 0, .int .i64 0, .int .i64 0, .int .i64 0, .int .i64 0, .slice none 0 0, .bool false, .int .i64 0, .slice none 0 0, .slice none 0 0] t1) = x1 at R1 b1 z1 ⊢
  have R2 := Row.new x1 [.int .i64 0] t2
  have b2 := below_alloc x1 (.cells #[.int .i64 0] t2)
  have z2 : (x1.alloc (.cells #[.int .i64 0] t2)).heap.size = w2.heap.size + 2 := by rw [size_alloc1, z1]
  change Row (x1.alloc (.cells #[.int .i64 0] t2)) _ _ at R2
  generalize x1.alloc (.cells #[.int .i64 0] t2) = x2 at R2 b2 z2 ⊢
  have R3 := Row.new x2 [.int .i64 0] t2
  have b3 := below_alloc x2 (.cells #[.int .i64 0] t2)
  have z3 : (x2.alloc (.cells #[.int .i64 0] t2)).heap.size = w2.heap.size + 3 := by rw [size_alloc1, z2]
  change Row (x2.alloc (.cells #[.int .i64 0] t2)) _ _ at R3
  generalize x2.alloc (.cells #[.int .i64 0] t2) = x3 at R3 b3 z3 ⊢
  have R4 := Row.new x3 [.int .i64 0] t2
  have b4 := below_alloc x3 (.cells #[.int .i64 0] t2)
  have z4 : (x3.alloc (.cells #[.int .i64 0] t2)).heap.size = w2.heap.size + 4 := by rw [size_alloc1, z3]
  change Row (x3.alloc (.cells #[.int .i64 0] t2)) _ _ at R4
  generalize x3.alloc (.cells #[.int .i64 0] t2) = x4 at R4 b4 z4 ⊢
  have R5 := Row.new x4 [.int .i64 0] t2
  have b5 := below_alloc x4 (.cells #[.int .i64 0] t2)
  have z5 : (x4.alloc (.cells #[.int .i64 0] t2)).heap.size = w2.heap.size + 5 := by rw [size_alloc1, z4]
  change Row (x4.alloc (.cells #[.int .i64 0] t2)) _ _ at R5
  generalize x4.alloc (.cells #[.int .i64 0] t2) = x5 at R5 b5 z5 ⊢
  have b15 := below_step b1 (below_step b2 (below_step b3 (below_step b4 b5)))
  have b6 := below_alloc x5 (.cells #[.slice A l.length c, .int .i64 0, .int .i64 0] t6)
  have RR := Rr.new (hr.below b15) (fun hn ad ha => by have := hA hn ad ha; omega) hc hl t6
  rw [z5] at RR
  rw [z1] at R2
  rw [z2] at R3
  rw [z3] at R4
  rw [z4] at R5
  have M : Mem _ (pl w2.heap.size zero10 (.slice none 0 0) false 0 (.slice none 0 0) (.slice none 0 0) 0) := pl_mem (n := zero10) ((((((R1.below b2).below b3).below b4).below b5)).below b6) ((((R2.below b3).below b4).below b5).below b6) (((R3.below b4).below b5).below b6) ((R4.below b5).below b6) (R5.below b6)
  exact ⟨(R.below b15).below b6, M, RR, trivial, fun _ _ _ _ _ => trivial, ⟨ho, R.1, by omega⟩, pl_in, fun hn ad ha => hA hn ad ha, below_step (below_step hb b15) b6⟩
theorem pl_set10 (mb : Nat) (n : N10) (vb : Value) (has : Bool) (st : Int) (ve vk : Value) (many : Int) (v : Value) : (pl mb n vb has st ve vk many).set 10 (⟨mb, 10, none⟩, v) = pl mb n v has st ve vk many := rfl
theorem pl_set13 (mb : Nat) (n : N10) (vb : Value) (has : Bool) (st : Int) (ve vk : Value) (many : Int) (v : Value) : (pl mb n vb has st ve vk many).set 13 (⟨mb, 13, none⟩, v) = pl mb n vb has st v vk many := rfl
theorem pl_set14 (mb : Nat) (n : N10) (vb : Value) (has : Bool) (st : Int) (ve vk : Value) (many : Int) (v : Value) : (pl mb n vb has st ve vk many).set 14 (⟨mb, 14, none⟩, v) = pl mb n vb has st ve v many := rfl
theorem pl_set18 (mb : Nat) (n : N10) (vb : Value) (has : Bool) (st : Int) (ve vk : Value) (many : Int) (v : Int) : (pl mb n vb has st ve vk many).set 18 (⟨mb + 4, 0, none⟩, .int .i64 v) = pl mb n vb has st ve vk v := rfl
theorem en_set2 (xb : Nat) (x y z v : Value) : (rowPl xb 0 [x, y, z]).set 2 (⟨xb, 2, none⟩, v) = rowPl xb 0 [x, y, v] := rfl
theorem Gs.newvar {w wA w1 : World} {xb rb : Nat} (hb : Below w.heap.size w wA) (hG : Gs (fun k => k = xb ∨ k = rb) wA w1) (hx : w.heap.size ≤ xb) : Gs (fun k => k = rb) w w1 :=
  ⟨hG.os.trans hb.os, hG.tape.trans hb.tape, hG.output.trans hb.output, Nat.le_trans hb.size hG.size, fun k hk hn => (hG.block k (Nat.lt_of_lt_of_le hk hb.size) (fun e => by rcases e with e | e; omega; exact hn e)).trans (hb.block k hk)⟩
def plF (mb : Nat) (n : N10) (vb : Value) (has : Bool) (st : Int) (ve vk : Value) (many : Int) : List (Addr × Value) :=
  rowPl mb 0 [.int .i64 n.1, .int .i64 n.2.1, .int .i64 n.2.2.1, .int .i64 n.2.2.2.1, .int .i64 n.2.2.2.2.1, .int .i64 n.2.2.2.2.2.1, .int .i64 n.2.2.2.2.2.2.1, .int .i64 n.2.2.2.2.2.2.2.1, .int .i64 n.2.2.2.2.2.2.2.2.1, .int .i64 n.2.2.2.2.2.2.2.2.2, vb, .bool has, .int .i64 st, ve, vk] ++ (rowPl (mb + 1) 0 [.int .i64 n.1] ++ (rowPl (mb + 2) 0 [.int .i64 n.2.1] ++ (rowPl (mb + 3) 0 [.int .i64 n.2.2.1] ++ rowPl (mb + 4) 0 [.int .i64 many])))
theorem pl_fin (mb : Nat) (n : N10) (vb : Value) (has : Bool) (st : Int) (ve vk : Value) (many : Int) : (((pl mb n vb has st ve vk many).set 0 (⟨mb, 0, none⟩, .int .i64 n.1)).set 1 (⟨mb, 1, none⟩, .int .i64 n.2.1)).set 2 (⟨mb, 2, none⟩, .int .i64 n.2.2.1) = plF mb n vb has st ve vk many := rfl
theorem plF_row {w : World} {mb : Nat} {n : N10} {vb : Value} {has : Bool} {st : Int} {ve vk : Value} {many : Int} (h : Mem w (plF mb n vb has st ve vk many)) : Row w mb [.int .i64 n.1, .int .i64 n.2.1, .int .i64 n.2.2.1, .int .i64 n.2.2.2.1, .int .i64 n.2.2.2.2.1, .int .i64 n.2.2.2.2.2.1, .int .i64 n.2.2.2.2.2.2.1, .int .i64 n.2.2.2.2.2.2.2.1, .int .i64 n.2.2.2.2.2.2.2.2.1, .int .i64 n.2.2.2.2.2.2.2.2.2, vb, .bool has, .int .i64 st, ve, vk] := Mem.row (Mem.left h) (by simp)
theorem all_one {us : List Value} (h : us.all (·.oneCell') = true) : ∀ u ∈ us, u.oneCell' = true := fun u hu => List.all_eq_true.1 h u hu
/-- a row stored, and a row loaded, whole -/
theorem wpList_store_rowc {P : Program} {ops : Array Oper} {rest : List Oper} {op : Oper} {a : Act} {w : World} {Q : Exit → Act → World → Prop} (hgd : op.guard = none) (ty : TypeId) (x y : Operand) (ho : op.op = .store ty x y)
    (b : Nat) (us vs : List Value) (hx : a.eval x = .pointer (some ⟨b, 0, none⟩)) (hy : a.eval y = .agg us.toArray) (hR : Row w b vs) (hl : us.length = vs.length)
    (hi : (P.info? ty).map (·.size) = some us.length) (h1 : us.all (·.oneCell') = true) (h : wpList P ops Q rest (a.put op.dst undef) (w.setCells b 0 us)) : wpList P ops Q (op :: rest) a w :=
  wpList_store_mid hgd ty x y ho b 0 us.toArray hx hy (by have := hR.there; rw [← hl] at this; simpa using this) (by simpa using hi) (all_oneCell_toArray (all_one h1)) (by simpa using h)
theorem wpList_load_rowc {P : Program} {ops : Array Oper} {rest : List Oper} {op : Oper} {a : Act} {w : World} {Q : Exit → Act → World → Prop} (hgd : op.guard = none) (ty : TypeId) (x : Operand) (ho : op.op = .load ty x)
    (b : Nat) (cs : List Value) (hx : a.eval x = .pointer (some ⟨b, 0, none⟩)) (hR : Row w b cs) {d : TypeDesc} (hu : P.underlying ty = some d) (hd : d.isRow = true) (hi : (P.info? ty).map (·.size) = some cs.length)
    (h : wpList P ops Q rest (a.put op.dst (.agg cs.toArray)) w) : wpList P ops Q (op :: rest) a w :=
  wpList_load_mid hgd ty x ho b 0 hx cs d hR.range hu hd hi h
theorem Gs.setCells {B : Nat → Prop} {b : Nat} (hb : B b) (w : World) (us : List Value) : Gs B w (w.setCells b 0 us) := by
  obtain ⟨h1, h2, h3, h4⟩ := setCells_rest b us 0 w
  exact ⟨h1, h2, h3, Nat.le_of_eq h4.symm, fun k _ hn => heap_setCells (fun e => hn (by rw [e]; exact hb)) us 0 w⟩
section
variable {w0 W W1 : World} {res mb rb c : Nat} {zs : List Value} {ps qs : List (Addr × Value)} {A : Option Addr} {l : List UInt8} {s s1 : Int × Int} {X : World → Prop}
theorem Pg.turn (h : Pg w0 W res mb rb zs ps A c l s X) (hG : Gs (fun k => k = rb) W W1) (hr : Rr W1 rb A c l s1) : Pg w0 W1 res mb rb zs ps A c l s1 X := by
  have ho := h.ord
  refine h.next (h.mem.gs hG (fun i p v hi e => by have := h.inp i p v hi; omega)) hr (hG.mono (fun k hk => ⟨by omega, by omega⟩)) h.inp
theorem Pg.swap (h : Pg w0 W res mb rb zs ps A c l s X) (hm : ps = qs) : Pg w0 W res mb rb zs qs A c l s X := hm ▸ h
/-- the result's row written -/
theorem Pg.out (h : Pg w0 W res mb rb zs ps A c l s X) {W1 : World} (hb : Below res W W1) : Below w0.heap.size w0 W1 := h.below.trans (hb.mono h.ord.1)
end
end Go.Cov


/-
  Lemmas of this claim's own: a row stored or loaded whole, at an operation that is written out. Over any program.
-/
namespace Go.Cov
open Go.RowKit
/-- .. the operation written out, so that another one is told at once -/
theorem wpList_store_lit {P : Program} {ops : Array Oper} {rest : List Oper} {ty tp : TypeId} {x y : Operand} {pos : String} {after : Array Edge} {a : Act} {w : World} {Q : Exit → Act → World → Prop}
    (b : Nat) (us vs : List Value) (hx : a.eval x = .pointer (some ⟨b, 0, none⟩)) (hy : a.eval y = .agg us.toArray) (hR : Row w b vs) (hl : us.length = vs.length)
    (hi : (P.info? ty).map (·.size) = some us.length) (h1 : us.all (·.oneCell') = true) (h : wpList P ops Q rest (a.put none undef) (w.setCells b 0 us)) :
    wpList P ops Q ({ dst := none, op := .store ty x y, type := tp, pos := pos, after := after, guard := none } :: rest) a w :=
  wpList_store_rowc rfl ty x y rfl b us vs hx hy hR hl hi h1 h
theorem wpList_load_lit {P : Program} {ops : Array Oper} {rest : List Oper} {dst : Option Tmp} {ty tp : TypeId} {x : Operand} {pos : String} {after : Array Edge} {a : Act} {w : World} {Q : Exit → Act → World → Prop}
    (b : Nat) (cs : List Value) (hx : a.eval x = .pointer (some ⟨b, 0, none⟩)) (hR : Row w b cs) {d : TypeDesc} (hu : P.underlying ty = some d) (hd : d.isRow = true) (hi : (P.info? ty).map (·.size) = some cs.length)
    (h : wpList P ops Q rest (a.put dst (.agg cs.toArray)) w) : wpList P ops Q ({ dst := dst, op := .load ty x, type := tp, pos := pos, after := after, guard := none } :: rest) a w :=
  wpList_load_rowc rfl ty x rfl b cs hx hR hu hd hi h
end Go.Cov


/-
  Lemmas of this claim's own: a slice of bytes that grows beside a row that stays. Over any program.
-/
namespace Go.Cov
open Go.RowKit
/-- v is the call's own, holds l; the row at cb stays; nothing below base turns -/
structure Pb (W0 : World) (e : TypeId) (base cb : Nat) (vs : List Value) (W : World) (v : Value) (l : List UInt8) : Prop where
  own : W.ownsRow base e 1 v l.length (l.map byt)
  row : Row W cb vs
  ne : v.ownBlock ≠ some cb
  bel : Below base W0 W
  bs : base ≤ W.heap.size
section
variable {W0 W W1 : World} {e : TypeId} {base cb : Nat} {vs : List Value} {v v1 : Value} {l l1 : List UInt8}
theorem Pb.below (h : Pb W0 e base cb vs W v l) (hb : Below W.heap.size W W1) : Pb W0 e base cb vs W1 v l :=
  ⟨own_below h.own hb, h.row.below hb, h.ne, h.bel.trans (hb.mono h.bs), Nat.le_trans h.bs hb.size⟩
theorem Pb.tv (h : Pb W0 e base cb vs W v l) (hT : Tv v W v1 W1) (ho : W1.ownsRow base e 1 v1 l1.length (l1.map byt)) : Pb W0 e base cb vs W1 v1 l1 := by
  have h1 := h.row.1
  refine ⟨ho, h.row.keep (hT.block cb h1 h.ne) hT.size, ?_, h.bel.trans (hT.below h.own h.bs), Nat.le_trans h.bs hT.size⟩
  rcases hT.own with he | ⟨k, he, hk⟩
  · rw [he]; exact h.ne
  · rw [he]; intro hh; injection hh with hh; omega
theorem Pb.mk' (ho : W.ownsRow base e 1 v l.length (l.map byt)) (hb : Below base W0 W) (hs : base ≤ W.heap.size) (vs : List Value) (t : TypeId) : Pb W0 e base W.heap.size vs (W.alloc (.cells vs.toArray t)) v l := by
  have hb2 : Below W.heap.size W (W.alloc (.cells vs.toArray t)) := (Below.refl _ _).alloc (Nat.le_refl _) _
  exact ⟨own_below ho hb2, Row.new W vs t, fun he => by have := (own_lt ho he).2; omega, hb.trans (hb2.mono hs), Nat.le_trans hs hb2.size⟩
theorem Pb.cell (h : Pb W0 e base cb vs W v l) (i : Nat) (u : Value) (hi : vs[i]? = some u) : W.cell? ⟨cb, i, none⟩ = some u := (h.row.2 i u hi).1
/-- what is made behind lies apart -/
theorem Pb.apart (h : Pb W0 e base cb vs W v l) {k : Nat} (hk : W.heap.size ≤ k) : v.ownBlock ≠ some k := fun he => by have := (own_lt h.own he).2; omega
theorem Tv.apart {k : Nat} (hT : Tv v W v1 W1) (hk : k < W.heap.size) (hv : v.ownBlock ≠ some k) : v1.ownBlock ≠ some k := by
  rcases hT.own with he | ⟨j, he, hj⟩
  · rw [he]; exact hv
  · rw [he]; intro hh; injection hh with hh; omega
end
theorem rdq1 {w : World} {b : Nat} {x : Value} (h0 : w.cell? ⟨b, 0, none⟩ = some x) : Rd w (some ⟨b, 0, none⟩) [x] := by
  intro j u hj
  refine ⟨_, rfl, ?_⟩
  rw [add_none]
  rcases j with _ | j
  · cases hj; exact h0
  · simp at hj
end Go.Cov


/-
  Lemmas of this claim's own: a slice of pairs, read as data. Over any program.
-/
namespace Go.Cov
open Go.RowKit Go.ChangeShapes Go.WideShapes Go.Deep
section
variable {H : Type} {enc : TypeId × Value → H} {P : Program} {W : World} {base : Nat} {spare : Nat → Bool} {held : Bool}
theorem inv_pair {t be : TypeId} {f0 f1 : Field} (ht : P.underlying t = some (.struct #[f0, f1])) (hct : P.cellsOf t = 2) (ho : f0.offset = 0 ∧ f1.offset = 1) (h0 : P.underlying f0.type = some (.slice be)) (h1 : P.underlying f1.type = some (.slice be)) (hc0 : P.cellsOf f0.type = 1 ∧ P.cellsOf f1.type = 1) (hb : P.underlying be = some (.int .u8)) (hcb : P.cellsOf be = 1) :
    ∀ n cs x, DataW.trod enc P W base spare held n t cs = some x → ∃ a : Pr, cs = prEl.cells a ∧ ∀ p ∈ prEl.cons a, Sl W p.1 p.2 := by
  intro n cs x h
  obtain ⟨y0, y1, m, _, hl, g0, g1⟩ := trod_struct2 ht h
  rw [hct] at hl
  match cs, hl with
  | [u, v], _ =>
    rw [ho.1, hc0.1] at g0
    rw [ho.2, hc0.2] at g1
    obtain ⟨a, e0, s0⟩ := inv_slice h0 hb hcb _ _ _ g0
    obtain ⟨b, e1, s1⟩ := inv_slice h1 hb hcb _ _ _ g1
    have e0 : u = a.1 := by simpa [fst1] using e0
    have e1 : v = b.1 := by simpa [fst1] using e1
    obtain ⟨A, c, ha, r0⟩ := s0
    obtain ⟨B, d, hb', r1⟩ := s1
    refine ⟨⟨A, c, a.2, B, d, b.2⟩, ?_, ?_⟩
    · rw [e0, e1, ha, hb']; rfl
    · intro p hp
      rcases List.mem_cons.1 hp with rfl | hp
      · exact ⟨A, c, rfl, r0⟩
      · rw [List.mem_singleton.1 hp]; exact ⟨B, d, rfl, r1⟩
theorem open_pairs {t e be : TypeId} {f0 f1 : Field} (hs : P.underlying t = some (.slice e)) (ht : P.underlying e = some (.struct #[f0, f1])) (hct : P.cellsOf e = 2) (ho : f0.offset = 0 ∧ f1.offset = 1) (h0 : P.underlying f0.type = some (.slice be)) (h1 : P.underlying f1.type = some (.slice be)) (hc0 : P.cellsOf f0.type = 1 ∧ P.cellsOf f1.type = 1) (hb : P.underlying be = some (.int .u8)) (hcb : P.cellsOf be = 1)
    {r : Reach} {b0 : Nat} {v : Value} {d : DataW H} {p : List MemPlace} (hval : Value.okWide P W r b0 t v) (h : DataW.Trod enc P W base spare held t v d p) :
    ∃ (A : Option Addr) (c : Nat) (xs : List Pr), v = .slice A xs.length c ∧ xs.length ≤ c ∧ c ≤ maxLen ∧ Els prEl W A xs ∧ (d = .nil ∧ xs = [] ∨ ∃ el sp, d = .slice el sp ∧ el.length = xs.length ∧ sp.length ≤ c) := by
  obtain ⟨A, c, l, hv, h1, h2, _, h3, h4, h5⟩ := open_arg (sz := 2) prEl.cells _ hs hct prEl.len (inv_pair ht hct ho h0 h1 hc0 hb hcb) hval h
  exact ⟨A, c, l, hv, h1, h2, ⟨h3, h4⟩, h5⟩
theorem reach48 {P : Program} {e n : Nat} (he : P.bytesOf e = 48) (h : n * P.bytesOf e ≤ reachBytes) : n ≤ 2932031007403 := by
  rw [he] at h; simp [reachBytes] at h; omega
end
end Go.Cov

