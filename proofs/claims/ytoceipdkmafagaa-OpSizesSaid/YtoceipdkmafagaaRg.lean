/-
  Lemmas of this claim's own: a reader's cells beside other rows. Over any program.
-/
import Derived.Test.YtoceipdkmafagaaRdr
namespace Go.Cov
open Go.RowKit
section
variable {w w1 : World} {b c k : Nat} {A : Option Addr} {l : List UInt8} {s : Int × Int} {vs : List Value}
theorem Row.gro (h : Row w k vs) (hG : Gro b b w w1) (hk : k ≠ b) : Row w1 k vs := h.keep (hG.block k h.1 hk hk) hG.size
/-- where the reader's bytes lie -/
theorem Rr.lt (h : Rr w b A c l s) (hl : l ≠ []) : ∀ ad, A = some ad → ad.block < w.heap.size := fun ad ha => by
  cases l with
  | nil => exact absurd rfl hl
  | cons x l =>
    obtain ⟨ad', ha', hc⟩ := h.rd 0 (byt x) rfl
    rw [ha] at ha'
    cases ha'
    have := cell_lt hc
    rwa [block_add] at this
theorem rd_lt {xs : List UInt8} (h : Rd w A (xs.map byt)) (hl : xs ≠ []) : ∀ ad, A = some ad → ad.block < w.heap.size := fun ad ha => by
  cases xs with
  | nil => exact absurd rfl hl
  | cons x xs =>
    obtain ⟨ad', ha', hc⟩ := h 0 (byt x) rfl
    rw [ha] at ha'
    cases ha'
    have := cell_lt hc
    rwa [block_add] at this
/-- kept behind a write to a newer block, or one apart -/
theorem Rr.gro (h : Rr w b A c l s) (hG : Gro k k w w1) (hk : b ≠ k) (hA : l ≠ [] → ∀ ad, A = some ad → ad.block ≠ k) : Rr w1 b A c l s := by
  exact ⟨h.row.gro hG hk, rd_off hG h.rd hA, h.off, h.cap, h.len⟩
theorem Rr.new' (h : Rr w b A c l s) (hG : Gro k k w w1) (hk : b ≠ k) (hA : l ≠ [] → ∀ ad, A = some ad → ad.block < k) : Rr w1 b A c l s := h.gro hG hk (fun hl ad ha => Nat.ne_of_lt (hA hl ad ha))
theorem Gro.step {w2 : World} (h : Gro b b w w1) (hb : Below w.heap.size w1 w2) (hs : w.heap.size ≤ w2.heap.size := by exact Nat.le_refl _) : Gro b b w w2 :=
  ⟨hb.os.trans h.os, hb.tape.trans h.tape, hb.output.trans h.output, hs, fun j hj h1 h2 => (hb.block j hj).trans (h.block j hj h1 h2)⟩
/-- a write to a block that is new -/
theorem Gro.newset (h : Gro b b w w1) (hk : w.heap.size ≤ k) (i : Nat) (x : Value) : Gro b b w (w1.setCell ⟨k, i, none⟩ x) :=
  ⟨h.os, h.tape, h.output, by rw [World.size_setCell]; exact h.size, fun j hj h1 h2 => by
    rw [← h.block j hj h1 h2]
    simp only [World.setCell, Array.getElem?_modify]
    rw [if_neg (by show ¬ (k = j); omega)]⟩
theorem Gro.newgro {w2 : World} (h : Gro b b w w1) (hk : w.heap.size ≤ k) (hG : Gro k k w1 w2) : Gro b b w w2 :=
  ⟨hG.os.trans h.os, hG.tape.trans h.tape, hG.output.trans h.output, Nat.le_trans h.size hG.size, fun j hj h1 h2 => (hG.block j (Nat.lt_of_lt_of_le hj h.size) (by omega) (by omega)).trans (h.block j hj h1 h2)⟩
end
end Go.Cov
namespace Go.Cov
open Go.RowKit
/-- a result's row, a struct's row and a reader, made by a call, one behind the other; X is what else is kept -/
structure Rg (w0 W : World) (res ob rb : Nat) (zs vs : List Value) (A : Option Addr) (c : Nat) (l : List UInt8) (s : Int × Int) (X : World → Prop) : Prop where
  r1 : Row W res zs
  r2 : Row W ob vs
  rr : Rr W rb A c l s
  x : X W
  kx : ∀ k W1 W2, k ≤ rb → Gro k k W1 W2 → rb < W1.heap.size → X W1 → X W2
  ord : w0.heap.size ≤ res ∧ res < ob ∧ ob < rb
  old : l ≠ [] → ∀ ad, A = some ad → ad.block < res
  below : Below w0.heap.size w0 W
section
variable {w0 W W1 : World} {res ob rb c : Nat} {zs vs : List Value} {A : Option Addr} {l : List UInt8} {s s1 : Int × Int} {X : World → Prop}
theorem Rg.next (h : Rg w0 W res ob rb zs vs A c l s X) (hr : Rr W1 rb A c l s1) (hG : Gro rb rb W W1) : Rg w0 W1 res ob rb zs vs A c l s1 X :=
  ⟨h.r1.gro hG (by have := h.ord; omega), h.r2.gro hG (by have := h.ord; omega), hr, h.kx rb _ _ (Nat.le_refl _) hG h.rr.row.1 h.x, h.kx, h.ord, h.old, h.below.trans (hG.below (by have := h.ord; omega) (by have := h.ord; omega) h.below.size)⟩
/-- .. with something new -/
theorem Rg.more (h : Rg w0 W res ob rb zs vs A c l s X) {Y : World → Prop} (hy : Y W) (hk : ∀ k W1 W2, k ≤ rb → Gro k k W1 W2 → rb < W1.heap.size → Y W1 → Y W2) : Rg w0 W res ob rb zs vs A c l s (fun W => X W ∧ Y W) :=
  ⟨h.r1, h.r2, h.rr, ⟨h.x, hy⟩, fun k W1 W2 hk1 hG hs hxy => ⟨h.kx k W1 W2 hk1 hG hs hxy.1, hk k W1 W2 hk1 hG hs hxy.2⟩, h.ord, h.old, h.below⟩
theorem Rg.to (h : Rg w0 W res ob rb zs vs A c l s X) {Y : World → Prop} (hy : Y W) (hk : ∀ k W1 W2, k ≤ rb → Gro k k W1 W2 → rb < W1.heap.size → Y W1 → Y W2) : Rg w0 W res ob rb zs vs A c l s Y :=
  ⟨h.r1, h.r2, h.rr, hy, hk, h.ord, h.old, h.below⟩
theorem Rg.set (h : Rg w0 W res ob rb zs vs A c l s X) (i : Nat) (hi : i < vs.length) (x : Value) : Rg w0 (W.setCell ⟨ob, i, none⟩ x) res ob rb zs (vs.set i x) A c l s X := by
  have ho := h.ord
  have hG := Gro.set ob ob i W x
  exact ⟨h.r1.gro hG (by omega), h.r2.set i hi x, h.rr.new' hG (by omega) (fun hl ad ha => by have := h.old hl ad ha; omega), h.kx ob _ _ (by omega) hG h.rr.row.1 h.x, h.kx, ho, h.old, h.below.setCell (p := ⟨ob, i, none⟩) (by show w0.heap.size ≤ ob; omega) x⟩
theorem Rg.set1 (h : Rg w0 W res ob rb zs vs A c l s X) (i : Nat) (hi : i < zs.length) (x : Value) : Rg w0 (W.setCell ⟨res, i, none⟩ x) res ob rb (zs.set i x) vs A c l s X := by
  have ho := h.ord
  have hG := Gro.set res res i W x
  exact ⟨h.r1.set i hi x, h.r2.gro hG (by omega), h.rr.new' hG (by omega) (fun hl ad ha => h.old hl ad ha), h.kx res _ _ (by omega) hG h.rr.row.1 h.x, h.kx, ho, h.old, h.below.setCell (p := ⟨res, i, none⟩) (by show w0.heap.size ≤ res; omega) x⟩
theorem Rg.gro_ob (h : Rg w0 W res ob rb zs vs A c l s X) (hG : Gro ob ob W W1) {vs1 : List Value} (hr : Row W1 ob vs1) : Rg w0 W1 res ob rb zs vs1 A c l s X := by
  have ho := h.ord
  exact ⟨h.r1.gro hG (by omega), hr, h.rr.new' hG (by omega) (fun hl ad ha => by have := h.old hl ad ha; omega), h.kx ob _ _ (by omega) hG h.rr.row.1 h.x, h.kx, ho, h.old, h.below.trans (hG.below (by omega) (by omega) h.below.size)⟩
/-- what grows behind all that -/
theorem Rg.on (h : Rg w0 W res ob rb zs vs A c l s X) (hb : Below W.heap.size W W1) : Rg w0 W1 res ob rb zs vs A c l s X :=
  ⟨h.r1.below hb, h.r2.below hb, h.rr.below hb, h.kx rb _ _ (Nat.le_refl _) (Gro.of_below hb) h.rr.row.1 h.x, h.kx, h.ord, h.old, below_step h.below hb⟩
theorem Rg.err (h : Rg w0 W res ob rb zs vs A c l s X) (x : Int) : Rg w0 (W.setCell ⟨rb, 2, none⟩ (.int .i64 x)) res ob rb zs vs A c l (s.1, x) X := h.next (h.rr.set2 x) (Gro.set rb rb 2 W _)
theorem Rg.c2 (h : Rg w0 W res ob rb zs vs A c l s X) (i : Nat) (v : Value) (hi : vs[i]? = some v) : W.cell? ⟨ob, i, none⟩ = some v := (h.r2.2 i v hi).1
theorem Rg.f2 (h : Rg w0 W res ob rb zs vs A c l s X) (i : Nat) (v : Value) (hi : vs[i]? = some v) : W.frozen? ⟨ob, i, none⟩ = false := (h.r2.2 i v hi).2
theorem Rg.c1 (h : Rg w0 W res ob rb zs vs A c l s X) (i : Nat) (v : Value) (hi : zs[i]? = some v) : W.cell? ⟨res, i, none⟩ = some v := (h.r1.2 i v hi).1
theorem Rg.f1 (h : Rg w0 W res ob rb zs vs A c l s X) (i : Nat) (v : Value) (hi : zs[i]? = some v) : W.frozen? ⟨res, i, none⟩ = false := (h.r1.2 i v hi).2
theorem keep_own {e : TypeId} {n size : Nat} {v : Value} {xs : List Value} {k : Nat} {W1 W2 : World} (hk : k ≤ rb) (hG : Gro k k W1 W2) (h : W1.ownsRow (rb + 1) e size v n xs) : W2.ownsRow (rb + 1) e size v n xs := hG.own h (by omega)
/-- the elements' slices lie from a block on -/
def NewE {α : Type} (T : El α) (base : Nat) (xs : List α) : Prop := ∀ a ∈ xs, ∀ p ∈ T.cons a, ∀ k, p.1.ownBlock = some k → base ≤ k
theorem keep_els {α : Type} {T : El α} {base : Nat} {e : TypeId} {v : Value} {xs : List α} {k : Nat} {W1 W2 : World} (h : OwnEls T W1 base e v xs) (hn : NewE T base xs) (hG : Gro k k W1 W2) (hk : k < base) : OwnEls T W2 base e v xs :=
  ⟨hG.own h.1 hk, fun a ha p hp => ⟨hG.sl (h.2 a ha p hp).1 (fun j hj => by have := hn a ha p hp j hj; omega), (h.2 a ha p hp).2⟩⟩
end
end Go.Cov
namespace Go.Cov
open Go.RowKit
section
variable {w w1 w2 : World} {b c k : Nat} {row : Option Nat} {vs : List Value} {A : Option Addr} {l : List UInt8} {s : Int × Int}
theorem Gro.lft (h : Gro b b w w1) : Gro b c w w1 := ⟨h.os, h.tape, h.output, h.size, fun k hk h1 _ => h.block k hk h1 h1⟩
theorem Gro.rgt (h : Gro c c w w1) : Gro b c w w1 := ⟨h.os, h.tape, h.output, h.size, fun k hk _ h1 => h.block k hk h1 h1⟩
theorem Gro.grown (h : Gro b c w w1) (hg : w1.grownBy w2 row) (hr : ∀ k, row = some k → w.heap.size ≤ k) : Gro b c w w2 :=
  ⟨hg.os.trans h.os, hg.tape.trans h.tape, hg.output.trans h.output, Nat.le_trans h.size hg.size, fun j hj h1 h2 => (hg.block j (Nat.lt_of_lt_of_le hj h.size) (fun e => by have := hr j e.symm; omega)).trans (h.block j hj h1 h2)⟩
theorem Row.grown (h : Row w k vs) (hg : w.grownBy w1 row) (hk : row ≠ some k) : Row w1 k vs := h.keep (hg.block k h.1 (fun e => hk e.symm)) hg.size
theorem Rr.grown (h : Rr w b A c l s) (hg : w.grownBy w1 row) (hk : row ≠ some b) (hA : l ≠ [] → ∀ ad, A = some ad → row ≠ some ad.block) : Rr w1 b A c l s := by
  refine ⟨h.row.grown hg hk, ?_, h.off, h.cap, h.len⟩
  by_cases hl : l = []
  · subst hl; exact Rd.nil _ _
  · exact fun j u hj => by
      obtain ⟨ad, ha, hc⟩ := h.rd j u hj
      exact ⟨ad, ha, hg.cell hc (fun e => by rw [block_add] at e; exact hA hl ad ha e.symm)⟩
theorem Row.gro2 (h : Row w k vs) (hG : Gro b c w w1) (h1 : k ≠ b) (h2 : k ≠ c) : Row w1 k vs := h.keep (hG.block k h.1 h1 h2) hG.size
theorem Gro.own2 {e : TypeId} {base n size : Nat} {v : Value} {xs : List Value} (hG : Gro b c w w1) (h : w.ownsRow base e size v n xs) (hb : b < base) (hc : c < base) : w1.ownsRow base e size v n xs := by
  refine ⟨h.1, ?_⟩
  have h0 := fun k (hk : v.ownBlock = some k) => own_lt h hk
  rcases h.2 with h2 | ⟨g, cap, cur, hv, hg, hh, r⟩
  · exact .inl h2
  · have h1 := h0 g (by rw [hv]; rfl)
    exact .inr ⟨g, cap, cur, hv, hg, (hG.block g h1.2 (by omega) (by omega)).trans hh, r⟩
theorem own_new {base n size : Nat} {e : TypeId} {v : Value} {xs : List Value} (h : w.ownsRow base e size v n xs) {v1 : Value} {m : Nat} {ys : List Value} {size' : Nat} {e' : TypeId} {base' : Nat} (h1 : w1.ownsRow base' e' size' v1 m ys) (hs : w1.heap.size ≤ base) : v.ownBlock ≠ none → v.ownBlock ≠ v1.ownBlock := by
  intro hn he
  obtain ⟨k, hk⟩ := Option.ne_none_iff_exists'.1 hn
  have h2 := (own_lt h hk).1
  have h3 := (own_lt h1 (he ▸ hk)).2
  omega
theorem own_slice {base n cap : Nat} {e : TypeId} {A : Option Addr} {l : List UInt8} (h : w.ownsRow base e 1 (.slice A n cap) n (l.map byt)) (hn : n = l.length) : Sl w (.slice A n cap) l := by
  subst hn
  obtain ⟨A', c', he, h1, h2, _⟩ := own_shape h
  injection he with e1 e2 e3
  subst e1 e3
  exact ⟨A, cap, rfl, h1, h2, own_rd h⟩
end
theorem rd3 {w : World} {k : Nat} {x y z : Value} (h0 : w.cell? ⟨k, 0, none⟩ = some x) (h1 : w.cell? ⟨k, 1, none⟩ = some y) (h2 : w.cell? ⟨k, 2, none⟩ = some z) : Rd w (some ⟨k, 0, none⟩) [x, y, z] := fun j u hj => by
  match j, hj with
  | 0, hj => cases hj; exact ⟨_, rfl, by rw [add_none]; exact h0⟩
  | 1, hj => cases hj; exact ⟨_, rfl, by rw [add_none]; exact h1⟩
  | 2, hj => cases hj; exact ⟨_, rfl, by rw [add_none]; exact h2⟩
end Go.Cov
namespace Go.Cov
open Go.RowKit
theorem NewE.nil {α : Type} (T : El α) (base : Nat) : NewE T base [] := fun a ha => by cases ha
theorem NewE.app {α : Type} {T : El α} {base : Nat} {xs ys : List α} (h : NewE T base xs) (g : NewE T base ys) : NewE T base (xs ++ ys) := fun a ha => by
  rcases List.mem_append.1 ha with ha | ha
  · exact h a ha
  · exact g a ha
end Go.Cov
namespace Go.Cov
open Go.RowKit
theorem en_off {w w0 : World} {base base' n size : Nat} {e e' : TypeId} {v : Value} {xs : List Value} {x : En} (h : w.ownsRow base e 1 (.slice x.A x.op.length x.cap) x.op.length (x.op.map byt)) (h0 : w0.ownsRow base' e' size v n xs) (hs : w0.heap.size ≤ base) : Off enEl w v [x] := fun a ha p hp => by
  rw [List.mem_singleton.1 ha] at hp
  rw [List.mem_singleton.1 hp]
  refine ⟨own_slice h rfl, fun _ hn he => ?_⟩
  exact own_new h h0 hs (fun hh => hn (he.symm.trans hh)) he
theorem en_new {w : World} {base base' n : Nat} {e : TypeId} {x : En} {xs : List Value} (h : w.ownsRow base e 1 (.slice x.A x.op.length x.cap) n xs) (hb : base' ≤ base) : NewE enEl base' [x] := fun a ha p hp k hk => by
  rw [List.mem_singleton.1 ha] at hp
  rw [List.mem_singleton.1 hp] at hk
  exact Nat.le_trans hb (own_lt h hk).1
end Go.Cov
namespace Go.Cov
open Go.RowKit
theorem results_cell2 {P : Program} {fn : Func} {k k2 : Nat} {t : TypeId} (hr : fn.results = #[.cell k t, .tmp k2]) {ts : Array Value} {b : Nat} (ht : ts.getD k undef = .pointer (some ⟨b, 0, none⟩)) {x : Value} (hx : ts.getD k2 undef = x) {w : World} {cs : List Value} (R : Row w b cs) {d : TypeDesc} (hu : P.underlying t = some d) (hd : d.isRow = true) (hi : (P.info? t).map (·.size) = some cs.length) :
    (results fn ts).run P w = .ok (.tuple #[.agg cs.toArray, x]) w := by
  have hl := run_loadVar_mid (P := P) w b 0 t cs d R.range hu hd hi
  have ht' : ts[k]?.getD undef = .pointer (some ⟨b, 0, none⟩) := by rw [← ht]; simp
  have hx' : ts[k2]?.getD undef = x := by rw [← hx]; simp
  simp [results, hr, ht', hx', asAddr, hl]
end Go.Cov
