/-
  Lemmas of this claim's own: what a law's arguments, read as data, give the walk. Over any program.
-/
import Derived.Test.YtoceipdkmafagaaLists
import Derived.ProofKit
import Derived.OpenShut
import Derived.ShutString
import Derived.ChangeOld
import Derived.Below
import Derived.Deep.Slices
import Derived.SizedLaws
namespace Go.Cov
open Go.RowKit Go.ChangeShapes Go.WideShapes Go.Deep

theorem rd_flat {α : Type} {w : World} (g : α → List Value) (sz : Nat) (hsz : ∀ a, (g a).length = sz) :
    ∀ (l : List α) (ad : Addr), (∀ i a, l[i]? = some a → ∀ r u, (g a)[r]? = some u → w.cell? (ad.add (i * sz + r)) = some u) → Rd w (some ad) (l.flatMap g)
  | [], ad, _ => by simpa using Rd.nil w (some ad)
  | x :: l, ad, h => by
    intro j u hj
    refine ⟨ad, rfl, ?_⟩
    rw [List.flatMap_cons] at hj
    by_cases hlt : j < sz
    · rw [List.getElem?_append_left (by rw [hsz]; exact hlt)] at hj
      simpa using h 0 x rfl j u hj
    · rw [List.getElem?_append_right (by rw [hsz]; omega), hsz] at hj
      obtain ⟨ad', he, hc⟩ := rd_flat g sz hsz l (ad.add sz) (fun i a ha r u hu => by
        have := h (i + 1) a (by simpa using ha) r u hu
        rw [add_add', show sz + (i * sz + r) = (i + 1) * sz + r by rw [Nat.add_mul]; omega]
        exact this) (j - sz) u hj
      cases he
      rw [add_add'] at hc
      rwa [show sz + (j - sz) = j by omega] at hc

section
variable {H : Type} {enc : TypeId × Value → H} {P : Program} {W : World}
/-- A slice of whatever elements, opened: its elements are a list of α, each by its cells. -/
theorem open_sl {α : Type} [Inhabited α] {t e sz fuel : Nat} {base : Nat} {spare : Nat → Bool} {held : Bool} (g : α → List Value) (Q : α → Prop) (ht : P.underlying t = some (.slice e)) (hc : P.cellsOf e = sz) (hsz : ∀ a, (g a).length = sz)
    (hinv : ∀ n cs x, DataW.trod enc P W base spare held n e cs = some x → ∃ a, cs = g a ∧ Q a)
    {cs : List Value} {x : DataW H × List MemPlace} (h : DataW.trod enc P W base spare held fuel t cs = some x) :
    ∃ (A : Option Addr) (c : Nat) (l : List α), cs = [.slice A l.length c] ∧ l.length ≤ c ∧ c ≤ maxLen ∧ (A = none → c = 0) ∧ Rd W A (l.flatMap g) ∧ (∀ a ∈ l, Q a) ∧
      (x.1 = .nil ∧ l = [] ∨ ∃ el sp, x.1 = .slice el sp ∧ el.length = l.length ∧ sp.length ≤ c) := by
  rcases open_slice ht h with ⟨rfl, rfl⟩ | ⟨a, len, cap, m, n, D, Pl, rfl, _, hl, hm, hmm, rfl, hi⟩
  · exact ⟨none, 0, [], rfl, Nat.le_refl _, by simp [maxLen], fun _ => rfl, Rd.nil _ _, by simp, .inl ⟨rfl, rfl⟩⟩
  · have hmle : len ≤ m := by subst hmm; split <;> omega
    have hmc : m ≤ cap := by subst hmm; split <;> omega
    obtain ⟨f, hf⟩ := choose_lt (n := len) (p := fun i z => Q z ∧ ∀ r, r < sz → W.cell? ((a.add (i * sz)).add r) = (g z)[r]?) (fun i hi' => by
      obtain ⟨cs', hcs, htr⟩ := hi i (by omega)
      obtain ⟨z, hz, hq⟩ := hinv _ _ _ htr
      rw [hc] at hcs
      obtain ⟨_, _, hcell⟩ := World.cells?_some hcs
      exact ⟨z, hq, fun r hr => by rw [hcell r hr, hz]⟩)
    refine ⟨some a, cap, (List.range len).map f, by simp, by simpa using hl, hm, (fun h => by cases h), ?_, ?_, .inr ⟨_, _, rfl, by simp, by simp; omega⟩⟩
    · refine rd_flat g sz hsz _ a fun i z hz r u hu => ?_
      rw [List.getElem?_map] at hz
      obtain ⟨i', hi', rfl⟩ := Option.map_eq_some_iff.1 hz
      have hlt : i < len := by simpa using (List.getElem?_eq_some_iff.1 hi').1
      have : i' = i := by simpa [hlt] using hi'.symm
      subst this
      have hr : r < sz := by rw [← hsz (f i')]; exact (List.getElem?_eq_some_iff.1 hu).1
      rw [← add_add', (hf i' hlt).2 r hr, hu]
    · intro z hz
      obtain ⟨i, hi', rfl⟩ := List.mem_map.1 hz
      exact (hf i (by simpa using hi')).1
/-- ... as a parameter -/
theorem open_arg {α : Type} [Inhabited α] {t e sz : Nat} {base : Nat} {spare : Nat → Bool} {held : Bool} (g : α → List Value) (Q : α → Prop) (ht : P.underlying t = some (.slice e)) (hc : P.cellsOf e = sz) (hsz : ∀ a, (g a).length = sz)
    (hinv : ∀ n cs x, DataW.trod enc P W base spare held n e cs = some x → ∃ a, cs = g a ∧ Q a)
    {r : Reach} {b0 : Nat} {v : Value} {d : DataW H} {p : List MemPlace} (hval : Value.okWide P W r b0 t v) (h : DataW.Trod enc P W base spare held t v d p) :
    ∃ (A : Option Addr) (c : Nat) (l : List α), v = .slice A l.length c ∧ l.length ≤ c ∧ c ≤ maxLen ∧ (A = none → c = 0) ∧ Rd W A (l.flatMap g) ∧ (∀ a ∈ l, Q a) ∧
      (d = .nil ∧ l = [] ∨ ∃ el sp, d = .slice el sp ∧ el.length = l.length ∧ sp.length ≤ c) := by
  obtain ⟨a0, n0, c0, rfl⟩ := okWide_slice ht hval
  obtain ⟨fuel, hf⟩ := h
  obtain ⟨A, c, l, hv, r⟩ := open_sl g Q ht hc hsz hinv hf
  exact ⟨A, c, l, by simpa [Value.cells] using hv, r⟩
end

theorem reach1 {P : Program} {e n : Nat} (he : P.bytesOf e = 1) (h : n * P.bytesOf e ≤ reachBytes) : n ≤ 140737488351232 := by
  rw [he] at h; simpa [reachBytes] using h
theorem wf64 {n : Int} (h : (Lit.int .i64 n).wf = true) : -9223372036854775808 ≤ n ∧ n < 9223372036854775808 := by
  have hb : -9223372036854775808 ≤ n ∧ n ≤ 9223372036854775807 := by simpa [Lit.wf, IntKind.min, IntKind.max, IntKind.signed, IntKind.bits] using h
  omega
theorem wfu8 {n : Int} (h : (Lit.int .u8 n).wf = true) : 0 ≤ n ∧ n < 256 := by
  have hb : 0 ≤ n ∧ n ≤ 255 := by simpa [Lit.wf, IntKind.min, IntKind.max, IntKind.signed, IntKind.bits] using h
  omega
theorem wfu16 {n : Int} (h : (Lit.int .u16 n).wf = true) : 0 ≤ n ∧ n < 65536 := by
  have hb : 0 ≤ n ∧ n ≤ 65535 := by simpa [Lit.wf, IntKind.min, IntKind.max, IntKind.signed, IntKind.bits] using h
  omega
theorem wfu32 {n : Int} (h : (Lit.int .u32 n).wf = true) : 0 ≤ n ∧ n < 4294967296 := by
  have hb : 0 ≤ n ∧ n ≤ 4294967295 := by simpa [Lit.wf, IntKind.min, IntKind.max, IntKind.signed, IntKind.bits] using h
  omega
theorem reach24 {P : Program} {e n : Nat} (he : P.bytesOf e = 24) (h : n * P.bytesOf e ≤ reachBytes) : n ≤ 140737488351236 := by
  rw [he] at h; simp [reachBytes] at h; omega
theorem flat1 {α : Type} {w : World} {A : Option Addr} (f : α → Value) {l : List α} (h : Rd w A (l.flatMap fun a => [f a])) : Rd w A (l.map f) := by
  have e : ∀ l : List α, l.flatMap (fun a => [f a]) = l.map f := fun l => by
    induction l with
    | nil => rfl
    | cons x l ih => rw [List.flatMap_cons, ih]; rfl
  rwa [e] at h

/-! ### elements of one cell -/
section
variable {H : Type} {enc : TypeId × Value → H} {P : Program} {W : World} {base : Nat} {spare : Nat → Bool} {held : Bool}
def one {α : Type} (f : α → Value) (a : α) : List Value := [f a]
theorem flat_one {α : Type} (f : α → Value) (l : List α) : l.flatMap (one f) = l.map f := by
  induction l with
  | nil => rfl
  | cons x l ih => rw [List.flatMap_cons, ih]; rfl
theorem inv_string {e : TypeId} (he : P.underlying e = some .string) : ∀ n cs x, DataW.trod enc P W base spare held n e cs = some x → ∃ a, cs = one Value.string a ∧ a.size ≤ maxLen := by
  intro n cs x h
  obtain ⟨s, rfl, _, hs⟩ := DataW.trod_string he h
  exact ⟨s, rfl, hs⟩
theorem inv_bool {e : TypeId} (he : P.underlying e = some .bool) : ∀ n cs x, DataW.trod enc P W base spare held n e cs = some x → ∃ a, cs = one Value.bool a ∧ True := by
  intro n cs x h
  obtain ⟨s, rfl, _⟩ := DataW.trod_bool he h
  exact ⟨s, rfl, trivial⟩
theorem u8_of_wf {n : Int} (h : (Lit.int .u8 n).wf = true) : ∃ b : UInt8, n = b.toNat := by
  have hb : 0 ≤ n ∧ n ≤ 255 := by simpa [Lit.wf, IntKind.min, IntKind.max, IntKind.signed, IntKind.bits] using h
  refine ⟨UInt8.ofNat n.toNat, ?_⟩
  have : (UInt8.ofNat n.toNat).toNat = n.toNat % 256 := by simp
  rw [this]
  omega
theorem inv_u8 {e : TypeId} (he : P.underlying e = some (.int .u8)) : ∀ n cs x, DataW.trod enc P W base spare held n e cs = some x → ∃ a, cs = one byt a ∧ True := by
  intro n cs x h
  obtain ⟨m, rfl, _, hw⟩ := DataW.trod_int he h
  obtain ⟨b, rfl⟩ := u8_of_wf hw
  exact ⟨b, rfl, trivial⟩
theorem inv_int {k : IntKind} {e : TypeId} (he : P.underlying e = some (.int k)) : ∀ n cs x, DataW.trod enc P W base spare held n e cs = some x → ∃ a, cs = one (Value.int k) a ∧ (Lit.int k a).wf = true := by
  intro n cs x h
  obtain ⟨m, rfl, _, hw⟩ := DataW.trod_int he h
  exact ⟨m, rfl, hw⟩
/-- A struct's cells, each field's by its own reading. -/
theorem inv_struct {t fuel : Nat} {fs : Array Field} {cs : List Value} {x : DataW H × List MemPlace} (ht : P.underlying t = some (.struct fs)) (h : DataW.trod enc P W base spare held fuel t cs = some x) :
    ∃ m, cs.length = P.cellsOf t ∧ ∀ (i : Nat) (f : Field), fs[i]? = some f → ∃ y, DataW.trod enc P W base spare held m f.type ((cs.drop f.offset).take (P.cellsOf f.type)) = some y := by
  obtain ⟨xs, n, _, _, hlen, hxl, hf⟩ := DataW.trod_struct ht h
  refine ⟨n, hlen, fun i f hi => ?_⟩
  have hlt : i < fs.size := (Array.getElem?_eq_some_iff.1 hi).1
  exact ⟨xs[i]'(by omega), by rw [hf i f hi, List.getElem?_eq_getElem (by omega)]⟩
end
/-! ### slices of slices of bytes -/
section
variable {H : Type} {enc : TypeId × Value → H} {P : Program} {W : World} {base : Nat} {spare : Nat → Bool} {held : Bool}
def fst1 (a : Value × List UInt8) : List Value := [a.1]
instance : Inhabited (Value × List UInt8) := ⟨(.bool false, [])⟩
theorem inv_slice {e be : TypeId} (he : P.underlying e = some (.slice be)) (hb : P.underlying be = some (.int .u8)) (hc : P.cellsOf be = 1) :
    ∀ n cs x, DataW.trod enc P W base spare held n e cs = some x → ∃ a : Value × List UInt8, cs = fst1 a ∧ Sl W a.1 a.2 := by
  intro n cs x h
  obtain ⟨A, c, l, rfl, h1, h2, _, h3, _⟩ := open_sl (sz := 1) (one byt) _ he hc (fun _ => rfl) (inv_u8 hb) h
  rw [flat_one] at h3
  exact ⟨(.slice A l.length c, l), rfl, A, c, rfl, h1, h2, h3⟩
theorem rowrd_of {A : Option Addr} {l : List (Value × List UInt8)} (h : Rd W A (l.flatMap fst1)) (hq : ∀ a ∈ l, Sl W a.1 a.2) : RowRd W A (l.map (·.2)) := by
  refine ⟨l.map (·.1), ?_, by simp, fun i x hx => ?_⟩
  · have e : ∀ l : List (Value × List UInt8), l.flatMap fst1 = l.map (·.1) := fun l => by
      induction l with
      | nil => rfl
      | cons x l ih => rw [List.flatMap_cons, ih]; rfl
    rwa [e] at h
  · rw [List.getElem?_map] at hx
    obtain ⟨a, ha, rfl⟩ := Option.map_eq_some_iff.1 hx
    exact ⟨a.1, by rw [List.getElem?_map, ha]; rfl, hq a (List.mem_of_getElem? ha)⟩
theorem open_rows {t e be : TypeId} (ht : P.underlying t = some (.slice e)) (hce : P.cellsOf e = 1) (he : P.underlying e = some (.slice be)) (hb : P.underlying be = some (.int .u8)) (hc : P.cellsOf be = 1)
    {r : Reach} {b0 : Nat} {v : Value} {d : DataW H} {p : List MemPlace} (hval : Value.okWide P W r b0 t v) (h : DataW.Trod enc P W base spare held t v d p) :
    ∃ (A : Option Addr) (c : Nat) (ls : List (List UInt8)), v = .slice A ls.length c ∧ ls.length ≤ c ∧ c ≤ maxLen ∧ RowRd W A ls ∧ (d = .nil ∧ ls = [] ∨ ∃ el sp, d = .slice el sp ∧ el.length = ls.length ∧ sp.length ≤ c) := by
  obtain ⟨A, c, l, hv, h1, h2, _, h3, h4, h5⟩ := open_arg (sz := 1) fst1 _ ht hce (fun _ => rfl) (inv_slice he hb hc) hval h
  refine ⟨A, c, l.map (·.2), by rw [List.length_map]; exact hv, by rw [List.length_map]; exact h1, h2, rowrd_of h3 h4, ?_⟩
  rcases h5 with ⟨h5, rfl⟩ | ⟨el, sp, h5, h6, h7⟩
  · exact .inl ⟨h5, rfl⟩
  · exact .inr ⟨el, sp, h5, by rw [List.length_map]; exact h6, h7⟩
end
end Go.Cov
