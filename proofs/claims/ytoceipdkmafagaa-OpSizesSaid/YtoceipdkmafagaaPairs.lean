import Derived.Test.YtoceipdkmafagaaEls
import Derived.Test.YtoceipdkmafagaaTurn
import Derived.Lib.BytesEntry
import Derived.Lib.Bytealg
/-! pairs of slices of bytes in a slice; comparing bytes. Over any program. -/
namespace Go.Cov
open Go.RowKit
structure Pr where
  kA : Option Addr
  kc : Nat
  k : List UInt8
  vA : Option Addr
  vc : Nat
  v : List UInt8
deriving Inhabited
def Pr.key (a : Pr) : Value := .slice a.kA a.k.length a.kc
def Pr.val (a : Pr) : Value := .slice a.vA a.v.length a.vc
def Pr.data (a : Pr) : List UInt8 × List UInt8 := (a.k, a.v)
def prEl : El Pr where
  sz := 2
  cells := fun a => [a.key, a.val]
  cons := fun a => [(a.key, a.k), (a.val, a.v)]
  len := fun _ => rfl
  one := fun a u hu => by
    rcases List.mem_cons.1 hu with rfl | hu
    · rfl
    · rw [List.mem_singleton.1 hu]; rfl
  pos := by decide
theorem pr_rd {w : World} {a : Pr} (h : ∀ p ∈ prEl.cons a, Sl w p.1 p.2) : Rd w a.kA (a.k.map byt) ∧ Rd w a.vA (a.v.map byt) := by
  constructor
  · obtain ⟨A, c, he, _, _, hr⟩ := h (a.key, a.k) (by simp [prEl])
    unfold Pr.key at he
    injection he with h1 h2 h3
    rw [h1]; exact hr
  · obtain ⟨A, c, he, _, _, hr⟩ := h (a.val, a.v) (by simp [prEl])
    unfold Pr.val at he
    injection he with h1 h2 h3
    rw [h1]; exact hr
theorem add_zero' (a : Addr) : a.add 0 = a := by simp [Addr.add]
/-- an element of a slice of pairs -/
theorem pr_at {w : World} {A : Option Addr} {xs : List Pr} (h : Els prEl w A xs) (i : Nat) (hi : i < xs.length) :
    ∃ ad, A = some ad ∧ w.cell? (ad.add (i * 2)) = some xs[i].key ∧ w.cell? ⟨(ad.add (i * 2)).block, (ad.add (i * 2)).off + 1, none⟩ = some xs[i].val ∧ Rd w xs[i].kA (xs[i].k.map byt) ∧ Rd w xs[i].vA (xs[i].v.map byt) := by
  obtain ⟨ad, hA, hc, hp⟩ := h.at' i hi
  obtain ⟨h1, h2⟩ := pr_rd hp
  refine ⟨ad, hA, ?_, ?_, h1, h2⟩
  · have := hc 0 xs[i].key rfl
    rwa [add_zero'] at this
  · exact hc 1 xs[i].val rfl
def zs (l : List UInt8) : List Int := l.map fun b => (b.toNat : Int)
theorem zs_bytes (l : List UInt8) : Lib.bytesOf (zs l) = l := by
  unfold Lib.bytesOf zs
  rw [List.map_map]
  conv => rhs; rw [← List.map_id l]
  refine List.map_congr_left fun b _ => ?_
  simp
theorem rd_bytesOf {P : Program} {w : World} {A : Option Addr} {l : List UInt8} (h : Rd w A (l.map byt)) (c : Nat) : (Extern.Bytes.bytesOf (.slice A l.length c)).run P w = .ok (str l) w := by
  cases A with
  | none =>
    have : l = [] := by
      cases l with
      | nil => rfl
      | cons x l => obtain ⟨ad, hA, _⟩ := h 0 (byt x) rfl; cases hA
    subst this
    rfl
  | some ad =>
    have := Lib.run_loadBytesX (P := P) w (zs l) ad .empty (fun j x hj => by
      unfold zs at hj
      rw [List.getElem?_map] at hj
      obtain ⟨b, hb, rfl⟩ := Option.map_eq_some_iff.1 hj
      obtain ⟨ad', he, hc⟩ := h j (byt b) (by rw [List.getElem?_map, hb]; rfl)
      cases he
      exact hc)
    rw [show (zs l).length = l.length by simp [zs], zs_bytes] at this
    show (Extern.Bytes.loadBytes ad l.length .empty).run P w = _
    rw [this]
    simp [str]
theorem run_compare {P : Program} {w : World} {A B : Option Addr} {l m : List UInt8} (h : Rd w A (l.map byt)) (g : Rd w B (m.map byt)) (c d : Nat) :
    (Extern.BytealgCompare.compare #[.slice A l.length c, .slice B m.length d]).run P w = .ok (.int .i64 (Lib.compareBytes l m)) w := by
  change Sem.run P (do pure (goInt (Extern.BytealgCompare.cmp (← Extern.Bytes.bytesOf (.slice A l.length c)) (← Extern.Bytes.bytesOf (.slice B m.length d))))) w = _
  simp only [Sem.run_bind, rd_bytesOf h, rd_bytesOf g, Sem.run_pure, Result.andThen]
  rw [Lib.cmp_eq]
  rfl
theorem cell_up {w w2 : World} {o : Obj} (hb : Below (w.alloc o).heap.size (w.alloc o) w2) {p : Addr} {v : Value} (h : w.cell? p = some v) : w2.cell? p = some v := ((below_step (below_alloc w o) hb).cell (cell_lt h)).trans h
theorem cell_on {w w2 : World} (hb : Below w.heap.size w w2) {p : Addr} {v : Value} (h : w.cell? p = some v) : w2.cell? p = some v := (hb.cell (cell_lt h)).trans h
theorem var_on {w w2 : World} {cs : Array Value} {t : TypeId} (hb : Below (w.alloc (.cells cs t)).heap.size (w.alloc (.cells cs t)) w2) (i : Nat) (v : Value) (h : cs[i]? = some v) : w2.cell? ⟨w.heap.size, i, none⟩ = some v := cell_on hb (box_cell w cs t i v h)
theorem froz_on {w w2 : World} (hb : Below w.heap.size w w2) {b i : Nat} (hz : b < w.heap.size) (h : w.frozen? ⟨b, i, none⟩ = false) : w2.frozen? ⟨b, i, none⟩ = false := (hb.frozen (p := ⟨b, i, none⟩) hz).trans h
end Go.Cov
