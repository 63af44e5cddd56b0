import Derived.Test.YtnkocbdbfkhgmaaDoorPlain1
import Derived.Test.YtnkocbdbfkhgmaaDoorWires1
import Derived.Shelf.Abstract
/-! code: is something so of each of some things -/
namespace Go.Proofs.YtnkocbdbfkhgmaaDoor
open Go.RowKit Go.Cov Go.Shelf
/-- the first place, or -1 -/
def fIx {α : Type} (p : α → Bool) : List α → Int
  | [] => -1
  | x :: l => if p x = true then 0 else (if fIx p l = -1 then -1 else fIx p l + 1)
theorem fIx_some {α : Type} {p : α → Bool} : ∀ {xs : List α} {k : Nat} (hk : k < xs.length), p xs[k] = true → (∀ j, (hj : j < xs.length) → j < k → p xs[j] = false) → fIx p xs = k
  | x :: l, 0, hk, h, _ => by
    have h : p x = true := h
    rw [fIx, if_pos h]; rfl
  | x :: l, k + 1, hk, h, hb => by
    have h0 : p x = false := hb 0 (by simp) (by omega)
    have hr := fIx_some (p := p) (xs := l) (k := k) (by simpa using hk) (by simpa using h) (fun j hj hjk => by have := hb (j + 1) (by simpa using hj) (by omega); rwa [List.getElem_cons_succ] at this)
    rw [fIx, if_neg (by rw [h0]; decide), hr, if_neg (by omega)]; omega
theorem fIx_none {α : Type} {p : α → Bool} : ∀ {xs : List α}, (∀ j, (hj : j < xs.length) → p xs[j] = false) → fIx p xs = -1
  | [], _ => rfl
  | x :: l, h => by
    have h0 : p x = false := h 0 (by simp)
    have hr := fIx_none (p := p) (xs := l) (fun j hj => by have := h (j + 1) (by simpa using hj); rwa [List.getElem_cons_succ] at this)
    rw [fIx, if_neg (by rw [h0]; decide), hr, if_pos rfl]
theorem fIx_any {α : Type} (p : α → Bool) : ∀ xs : List α, decide (0 ≤ fIx p xs) = xs.any p
  | [] => rfl
  | x :: l => by
    rw [fIx, List.any_cons, ← fIx_any p l]
    cases hp : p x
    · rw [if_neg (by decide)]
      by_cases h : fIx p l = -1
      · rw [if_pos h, h]; rfl
      · rw [if_neg h, Bool.false_or]
        by_cases h0 : 0 ≤ fIx p l
        · rw [decide_eq_true h0, decide_eq_true (by omega)]
        · exfalso
          have : ∀ l : List α, fIx p l = -1 ∨ 0 ≤ fIx p l := fun l => by
            induction l with
            | nil => exact .inl rfl
            | cons y l ih =>
              rw [fIx]
              split
              · exact .inr (by omega)
              · split
                · exact .inl rfl
                · rcases ih with ih | ih
                  · contradiction
                  · exact .inr (by omega)
          rcases this l with h1 | h1
          · exact h h1
          · exact h0 h1
    · rw [if_pos rfl]; rfl
theorem any_not {α : Type} (p : α → Bool) (xs : List α) : (!(xs.any (fun x => !p x))) = xs.all p := by
  induction xs with
  | nil => rfl
  | cons x l ih => rw [List.any_cons, List.all_cons, ← ih, Bool.not_or, Bool.not_not]
/-- types, instructions as elements -/
def tyEl : El Int where
  sz := 1
  cells := fun a => [.int .i64 a]
  cons := fun _ => []
  len := fun _ => rfl
  one := fun a u hu => by rw [List.mem_singleton.1 hu]; rfl
  pos := by decide
def inEl : El ID where
  sz := 2
  cells := fun a => [.int .i64 a.1, .int .i64 a.2]
  cons := fun _ => []
  len := fun _ => rfl
  one := fun a u hu => by
    rcases List.mem_cons.1 hu with rfl | hu
    · rfl
    · rw [List.mem_singleton.1 hu]; rfl
  pos := by decide
/-- a function in memory -/
structure Co where
  nm : List UInt8
  pA : Option Addr
  pc : Nat
  ps : List Int
  res : Int
  slots : Int
  iA : Option Addr
  ic : Nat
  is : List ID
deriving Inhabited
def Co.cells (c : Co) : List Value := [.string (str c.nm), .slice c.pA c.ps.length c.pc, .int .i64 c.res, .int .i64 c.slots, .slice c.iA c.is.length c.ic]
def Co.agg (c : Co) : Value := .agg #[.string (str c.nm), .slice c.pA c.ps.length c.pc, .int .i64 c.res, .int .i64 c.slots, .slice c.iA c.is.length c.ic]
def Co.data (c : Co) : CD := (c.nm, c.ps, c.res, c.slots, c.is)
def coEl : El Co where
  sz := 5
  cells := Co.cells
  cons := fun _ => []
  len := fun _ => rfl
  one := fun a u hu => by
    unfold Co.cells at hu
    simp only [List.mem_cons, List.not_mem_nil, or_false] at hu
    rcases hu with rfl | rfl | rfl | rfl | rfl <;> rfl
  pos := by decide
/-- what it leads to can be read -/
structure CoRd (w : World) (c : Co) : Prop where
  p : Els tyEl w c.pA c.ps
  i : Els inEl w c.iA c.is
  pc : c.ps.length ≤ c.pc ∧ c.pc ≤ maxLen
  ic : c.is.length ≤ c.ic ∧ c.ic ≤ maxLen
theorem CoRd.below {w w' : World} {c : Co} (h : CoRd w c) (hb : Below w.heap.size w w') : CoRd w' c := ⟨h.p.below hb, h.i.below hb, h.pc, h.ic⟩
theorem tx_at {w : World} {A : Option Addr} {xs : List SlR} (h : Els slEl w A xs) (i : Nat) (hi : i < xs.length) :
    ∃ ad, A = some ad ∧ w.cell? (ad.add i) = some xs[i].val := by
  obtain ⟨ad, hA, hc, _⟩ := h.at' i hi
  refine ⟨ad, hA, ?_⟩
  have := hc 0 _ rfl
  rw [show i * slEl.sz = i from Nat.mul_one i, add_zero'] at this
  exact this
theorem ty_at {w : World} {A : Option Addr} {xs : List Int} (h : Els tyEl w A xs) (i : Nat) (hi : i < xs.length) :
    ∃ ad, A = some ad ∧ w.cell? (ad.add i) = some (.int .i64 xs[i]) := by
  obtain ⟨ad, hA, hc, _⟩ := h.at' i hi
  refine ⟨ad, hA, ?_⟩
  have := hc 0 _ rfl
  rw [show i * tyEl.sz = i from Nat.mul_one i, add_zero'] at this
  exact this
theorem ins_at {w : World} {A : Option Addr} {xs : List ID} (h : Els inEl w A xs) (i : Nat) (hi : i < xs.length) :
    ∃ ad, A = some ad ∧ w.cell? (ad.add (i * 2)) = some (.int .i64 xs[i].1) ∧ w.cell? ⟨(ad.add (i * 2)).block, (ad.add (i * 2)).off + 1, none⟩ = some (.int .i64 xs[i].2) := by
  obtain ⟨ad, hA, hc, _⟩ := h.at' i hi
  refine ⟨ad, hA, ?_, hc 1 _ rfl⟩
  have := hc 0 _ rfl
  rwa [add_zero'] at this
theorem co_at {w : World} {A : Option Addr} {xs : List Co} (h : Els coEl w A xs) (i : Nat) (hi : i < xs.length) :
    ∃ ad, A = some ad ∧ w.cell? (ad.add (i * 5)) = some (.string (str xs[i].nm)) ∧ w.cell? ⟨(ad.add (i * 5)).block, (ad.add (i * 5)).off + 1, none⟩ = some (.slice xs[i].pA xs[i].ps.length xs[i].pc) ∧ w.cell? ⟨(ad.add (i * 5)).block, (ad.add (i * 5)).off + 2, none⟩ = some (.int .i64 xs[i].res) ∧ w.cell? ⟨(ad.add (i * 5)).block, (ad.add (i * 5)).off + 3, none⟩ = some (.int .i64 xs[i].slots) ∧ w.cell? ⟨(ad.add (i * 5)).block, (ad.add (i * 5)).off + 4, none⟩ = some (.slice xs[i].iA xs[i].is.length xs[i].ic) := by
  obtain ⟨ad, hA, hc, _⟩ := h.at' i hi
  refine ⟨ad, hA, ?_, hc 1 _ rfl, hc 2 _ rfl, hc 3 _ rfl, hc 4 _ rfl⟩
  have := hc 0 _ rfl
  rwa [add_zero'] at this

set_option maxRecDepth 100000 in
set_option maxHeartbeats 1600000 in
theorem idx_tx {w : World} {A : Option Addr} {c : Nat} {xs : List SlR} (h : Els slEl w A xs) (hz : xs.length ≤ 9223372036854775807) (p : SlR → Bool) (g : Nat) (lb : Array Value) (eg : ∀ args w, (callFunc g args).run Tryd.prog w = .ok (.enter g args) w)
    (hp : ∀ W, Below w.heap.size w W → ∀ x ∈ xs, Calls Tryd.prog g (#[x.val] ++ lb) W fun e w' => e = .returned (.bool (p x)) ∧ Below W.heap.size W w') :
    Calls Tryd.prog 76 #[.slice A xs.length c, .func (.func g) #[] lb] w fun e w' => e = .returned (.int .i64 (fIx p xs)) ∧ Below w.heap.size w w' := by
  go_enter Tryd.func76, Tryd.ntmps76
  go_wp2_with fail
  go_loopw [5, 8] (fun _ i W => ∃ k : Nat, k ≤ xs.length ∧ i = .int .i64 k ∧ (∀ j, (hj : j < xs.length) → j < k → p xs[j] = false) ∧ Below w.heap.size w W) (fun _ i _ => xs.length - (RowKit.intOf i).toNat)
  case atStart => exact ⟨0, by omega, rfl, fun j _ hj => by omega, Below.refl _ _⟩
  case round =>
    obtain ⟨k, hk, rfl, hall, hb⟩ := hrel
    by_cases hlt : k < xs.length
    · have i1 : (k : Int) < xs.length := by omega
      obtain ⟨ad, rfl, x0⟩ := tx_at (h.below hb) k hlt
      have K := hp wr hb xs[k] (List.getElem_mem hlt)
      have HX := hid (show ∀ q : Bool, p xs[k] = q → (q = true → fIx p xs = k) ∧ (q = false → ∀ j, (hj : j < xs.length) → j < k + 1 → p xs[j] = false) from fun q hq => ⟨fun hqt => fIx_some hlt (by rw [hqt] at hq; exact hq) hall, fun hqf j hj hjk => by
        by_cases hjj : j = k
        · subst hjj; rw [hqf] at hq; exact hq
        · exact hall j hj (by omega)⟩)
      clear hall
      generalize hxk : xs[k] = x at x0 K HX
      clear hxk
      obtain ⟨q, hq⟩ : ∃ q, p x = q := ⟨_, rfl⟩
      rw [hq] at K
      have HY := hid (HX.out q hq)
      clear HX hq
      replace K := hid K
      have i0 : (0 : Int) ≤ k := by omega
      go_wp2_with fail
      refine K.out.mono ?_
      rintro e w2 ⟨rfl, hb2⟩
      clear K
      cases q
      case false =>
        go_wp2_with fail
        go_roundw
        case rel => exact ⟨k + 1, by omega, by go_num, HY.out.2 (by first | rfl | trivial), below_step hb hb2⟩
        case measure => simp [RowKit.intOf]; omega
      case true =>
        have e5 := hid (HY.out.1 (by first | rfl | trivial))
        go_wp2_with fail
        go_ret
        exact ⟨by rw [e5.out]; rfl, below_step hb hb2⟩
    · obtain rfl : k = xs.length := by omega
      go_wp2_with fail
      go_ret
      exact ⟨by rw [fIx_none (fun j hj => hall j hj hj)]; rfl, hb⟩

set_option maxRecDepth 100000 in
set_option maxHeartbeats 1600000 in
theorem has_tx {w : World} {A : Option Addr} {c : Nat} {xs : List SlR} (h : Els slEl w A xs) (hz : xs.length ≤ 9223372036854775807) (p : SlR → Bool) (g : Nat) (lb : Array Value) (eg : ∀ args w, (callFunc g args).run Tryd.prog w = .ok (.enter g args) w)
    (hp : ∀ W, Below w.heap.size w W → ∀ x ∈ xs, Calls Tryd.prog g (#[x.val] ++ lb) W fun e w' => e = .returned (.bool (p x)) ∧ Below W.heap.size W w') :
    Calls Tryd.prog 61 #[.slice A xs.length c, .func (.func g) #[] lb] w fun e w' => e = .returned (.bool (xs.any p)) ∧ Below w.heap.size w w' := by
  have K := idx_tx (c := c) h hz p g lb eg hp
  have hA := fIx_any p xs
  generalize fIx p xs = z at K hA
  generalize xs.any p = y at hA ⊢
  clear hp
  replace K := hid K
  go_enter Tryd.func61, Tryd.ntmps61
  go_wp2_with fail
  refine K.out.mono ?_
  rintro e w2 ⟨rfl, hb⟩
  go_wp2_with fail
  go_ret
  exact ⟨by rw [← hA]; rfl, hb⟩
set_option maxRecDepth 100000 in
set_option maxHeartbeats 1600000 in
theorem nott_tx {w : World} {b : Nat} {x : SlR} {q : Bool} {g : Nat} (eg : ∀ args w, (callFunc g args).run Tryd.prog w = .ok (.enter g args) w) (hc : w.cell? ⟨b, 0, none⟩ = some (.func (.func g) #[] #[]))
    (hp : ∀ W, Below w.heap.size w W → Calls Tryd.prog g #[x.val] W fun e w' => e = .returned (.bool q) ∧ Below W.heap.size W w') :
    Calls Tryd.prog 62 #[x.val, .pointer (some ⟨b, 0, none⟩)] w fun e w' => e = .returned (.bool (!q)) ∧ Below w.heap.size w w' := by
  have K := hid (hp _ (Below.refl _ _))
  go_enter Tryd.func62, Tryd.ntmps62
  go_wp2_with fail
  refine K.out.mono ?_
  rintro e w2 ⟨rfl, hb⟩
  go_wp2_with fail
  go_ret
  exact ⟨rfl, hb⟩
set_option maxRecDepth 100000 in
set_option maxHeartbeats 1600000 in
theorem every_tx {w : World} {A : Option Addr} {c : Nat} {xs : List SlR} (h : Els slEl w A xs) (hz : xs.length ≤ 9223372036854775807) (p : SlR → Bool) (g : Nat) (eg : ∀ args w, (callFunc g args).run Tryd.prog w = .ok (.enter g args) w)
    (hp : ∀ W, Below w.heap.size w W → ∀ x ∈ xs, Calls Tryd.prog g #[x.val] W fun e w' => e = .returned (.bool (p x)) ∧ Below W.heap.size W w') :
    Calls Tryd.prog 37 #[.slice A xs.length c, .func (.func g) #[] #[]] w fun e w' => e = .returned (.bool (xs.all p)) ∧ Below w.heap.size w w' := by
  have b1 := below_alloc w (.cells #[.func (.func g) #[] #[]] 38)
  have hc := box_cell w #[.func (.func g) #[] #[]] 38 0 _ rfl
  have K := has_tx (c := c) (h.below b1) hz (fun x => !p x) 62 #[.pointer (some ⟨w.heap.size, 0, none⟩)] (enters_of Tryd.func62 (by kernel_rfl) rfl) (fun W hW x hx => nott_tx eg (cell_on hW hc) (fun W' hW' => hp W' (below_step (below_step b1 hW) hW') x hx))
  have hA := any_not p xs
  generalize xs.any (fun x => !p x) = z at K hA
  generalize xs.all p = y at hA ⊢
  clear hp hc
  replace K := hid K
  go_enter Tryd.func37, Tryd.ntmps37
  go_wp2_with fail
  refine K.out.mono ?_
  rintro e w2 ⟨rfl, hb⟩
  go_wp2_with fail
  go_ret
  exact ⟨by rw [← hA]; rfl, below_step b1 hb⟩

set_option maxRecDepth 100000 in
set_option maxHeartbeats 1600000 in
theorem idx_ty {w : World} {A : Option Addr} {c : Nat} {xs : List Int} (h : Els tyEl w A xs) (hz : xs.length ≤ 9223372036854775807) (p : Int → Bool) (g : Nat) (lb : Array Value) (eg : ∀ args w, (callFunc g args).run Tryd.prog w = .ok (.enter g args) w)
    (hp : ∀ W, Below w.heap.size w W → ∀ x ∈ xs, Calls Tryd.prog g (#[.int .i64 x] ++ lb) W fun e w' => e = .returned (.bool (p x)) ∧ Below W.heap.size W w') :
    Calls Tryd.prog 78 #[.slice A xs.length c, .func (.func g) #[] lb] w fun e w' => e = .returned (.int .i64 (fIx p xs)) ∧ Below w.heap.size w w' := by
  go_enter Tryd.func78, Tryd.ntmps78
  go_wp2_with fail
  go_loopw [5, 8] (fun _ i W => ∃ k : Nat, k ≤ xs.length ∧ i = .int .i64 k ∧ (∀ j, (hj : j < xs.length) → j < k → p xs[j] = false) ∧ Below w.heap.size w W) (fun _ i _ => xs.length - (RowKit.intOf i).toNat)
  case atStart => exact ⟨0, by omega, rfl, fun j _ hj => by omega, Below.refl _ _⟩
  case round =>
    obtain ⟨k, hk, rfl, hall, hb⟩ := hrel
    by_cases hlt : k < xs.length
    · have i1 : (k : Int) < xs.length := by omega
      obtain ⟨ad, rfl, x0⟩ := ty_at (h.below hb) k hlt
      have K := hp wr hb xs[k] (List.getElem_mem hlt)
      have HX := hid (show ∀ q : Bool, p xs[k] = q → (q = true → fIx p xs = k) ∧ (q = false → ∀ j, (hj : j < xs.length) → j < k + 1 → p xs[j] = false) from fun q hq => ⟨fun hqt => fIx_some hlt (by rw [hqt] at hq; exact hq) hall, fun hqf j hj hjk => by
        by_cases hjj : j = k
        · subst hjj; rw [hqf] at hq; exact hq
        · exact hall j hj (by omega)⟩)
      clear hall
      generalize hxk : xs[k] = x at x0 K HX
      clear hxk
      obtain ⟨q, hq⟩ : ∃ q, p x = q := ⟨_, rfl⟩
      rw [hq] at K
      have HY := hid (HX.out q hq)
      clear HX hq
      replace K := hid K
      have i0 : (0 : Int) ≤ k := by omega
      go_wp2_with fail
      refine K.out.mono ?_
      rintro e w2 ⟨rfl, hb2⟩
      clear K
      cases q
      case false =>
        go_wp2_with fail
        go_roundw
        case rel => exact ⟨k + 1, by omega, by go_num, HY.out.2 (by first | rfl | trivial), below_step hb hb2⟩
        case measure => simp [RowKit.intOf]; omega
      case true =>
        have e5 := hid (HY.out.1 (by first | rfl | trivial))
        go_wp2_with fail
        go_ret
        exact ⟨by rw [e5.out]; rfl, below_step hb hb2⟩
    · obtain rfl : k = xs.length := by omega
      go_wp2_with fail
      go_ret
      exact ⟨by rw [fIx_none (fun j hj => hall j hj hj)]; rfl, hb⟩

set_option maxRecDepth 100000 in
set_option maxHeartbeats 1600000 in
theorem has_ty {w : World} {A : Option Addr} {c : Nat} {xs : List Int} (h : Els tyEl w A xs) (hz : xs.length ≤ 9223372036854775807) (p : Int → Bool) (g : Nat) (lb : Array Value) (eg : ∀ args w, (callFunc g args).run Tryd.prog w = .ok (.enter g args) w)
    (hp : ∀ W, Below w.heap.size w W → ∀ x ∈ xs, Calls Tryd.prog g (#[.int .i64 x] ++ lb) W fun e w' => e = .returned (.bool (p x)) ∧ Below W.heap.size W w') :
    Calls Tryd.prog 65 #[.slice A xs.length c, .func (.func g) #[] lb] w fun e w' => e = .returned (.bool (xs.any p)) ∧ Below w.heap.size w w' := by
  have K := idx_ty (c := c) h hz p g lb eg hp
  have hA := fIx_any p xs
  generalize fIx p xs = z at K hA
  generalize xs.any p = y at hA ⊢
  clear hp
  replace K := hid K
  go_enter Tryd.func65, Tryd.ntmps65
  go_wp2_with fail
  refine K.out.mono ?_
  rintro e w2 ⟨rfl, hb⟩
  go_wp2_with fail
  go_ret
  exact ⟨by rw [← hA]; rfl, hb⟩
set_option maxRecDepth 100000 in
set_option maxHeartbeats 1600000 in
theorem nott_ty {w : World} {b : Nat} {x : Int} {q : Bool} {g : Nat} (eg : ∀ args w, (callFunc g args).run Tryd.prog w = .ok (.enter g args) w) (hc : w.cell? ⟨b, 0, none⟩ = some (.func (.func g) #[] #[]))
    (hp : ∀ W, Below w.heap.size w W → Calls Tryd.prog g #[.int .i64 x] W fun e w' => e = .returned (.bool q) ∧ Below W.heap.size W w') :
    Calls Tryd.prog 66 #[.int .i64 x, .pointer (some ⟨b, 0, none⟩)] w fun e w' => e = .returned (.bool (!q)) ∧ Below w.heap.size w w' := by
  have K := hid (hp _ (Below.refl _ _))
  go_enter Tryd.func66, Tryd.ntmps66
  go_wp2_with fail
  refine K.out.mono ?_
  rintro e w2 ⟨rfl, hb⟩
  go_wp2_with fail
  go_ret
  exact ⟨rfl, hb⟩
set_option maxRecDepth 100000 in
set_option maxHeartbeats 1600000 in
theorem every_ty {w : World} {A : Option Addr} {c : Nat} {xs : List Int} (h : Els tyEl w A xs) (hz : xs.length ≤ 9223372036854775807) (p : Int → Bool) (g : Nat) (eg : ∀ args w, (callFunc g args).run Tryd.prog w = .ok (.enter g args) w)
    (hp : ∀ W, Below w.heap.size w W → ∀ x ∈ xs, Calls Tryd.prog g #[.int .i64 x] W fun e w' => e = .returned (.bool (p x)) ∧ Below W.heap.size W w') :
    Calls Tryd.prog 41 #[.slice A xs.length c, .func (.func g) #[] #[]] w fun e w' => e = .returned (.bool (xs.all p)) ∧ Below w.heap.size w w' := by
  have b1 := below_alloc w (.cells #[.func (.func g) #[] #[]] 70)
  have hc := box_cell w #[.func (.func g) #[] #[]] 70 0 _ rfl
  have K := has_ty (c := c) (h.below b1) hz (fun x => !p x) 66 #[.pointer (some ⟨w.heap.size, 0, none⟩)] (enters_of Tryd.func66 (by kernel_rfl) rfl) (fun W hW x hx => nott_ty eg (cell_on hW hc) (fun W' hW' => hp W' (below_step (below_step b1 hW) hW') x hx))
  have hA := any_not p xs
  generalize xs.any (fun x => !p x) = z at K hA
  generalize xs.all p = y at hA ⊢
  clear hp hc
  replace K := hid K
  go_enter Tryd.func41, Tryd.ntmps41
  go_wp2_with fail
  refine K.out.mono ?_
  rintro e w2 ⟨rfl, hb⟩
  go_wp2_with fail
  go_ret
  exact ⟨by rw [← hA]; rfl, below_step b1 hb⟩

set_option maxRecDepth 100000 in
set_option maxHeartbeats 1600000 in
theorem idx_ins {w : World} {A : Option Addr} {c : Nat} {xs : List ID} (h : Els inEl w A xs) (hz : xs.length ≤ 9223372036854775807) (p : ID → Bool) (g : Nat) (lb : Array Value) (eg : ∀ args w, (callFunc g args).run Tryd.prog w = .ok (.enter g args) w)
    (hp : ∀ W, Below w.heap.size w W → ∀ x ∈ xs, Calls Tryd.prog g (#[.agg #[.int .i64 x.1, .int .i64 x.2]] ++ lb) W fun e w' => e = .returned (.bool (p x)) ∧ Below W.heap.size W w') :
    Calls Tryd.prog 79 #[.slice A xs.length c, .func (.func g) #[] lb] w fun e w' => e = .returned (.int .i64 (fIx p xs)) ∧ Below w.heap.size w w' := by
  go_enter Tryd.func79, Tryd.ntmps79
  go_wp2_with fail
  go_loopw [5, 8] (fun _ i W => ∃ k : Nat, k ≤ xs.length ∧ i = .int .i64 k ∧ (∀ j, (hj : j < xs.length) → j < k → p xs[j] = false) ∧ Below w.heap.size w W) (fun _ i _ => xs.length - (RowKit.intOf i).toNat)
  case atStart => exact ⟨0, by omega, rfl, fun j _ hj => by omega, Below.refl _ _⟩
  case round =>
    obtain ⟨k, hk, rfl, hall, hb⟩ := hrel
    by_cases hlt : k < xs.length
    · have i1 : (k : Int) < xs.length := by omega
      obtain ⟨ad, rfl, x0, x1⟩ := ins_at (h.below hb) k hlt
      have K := hp wr hb xs[k] (List.getElem_mem hlt)
      have HX := hid (show ∀ q : Bool, p xs[k] = q → (q = true → fIx p xs = k) ∧ (q = false → ∀ j, (hj : j < xs.length) → j < k + 1 → p xs[j] = false) from fun q hq => ⟨fun hqt => fIx_some hlt (by rw [hqt] at hq; exact hq) hall, fun hqf j hj hjk => by
        by_cases hjj : j = k
        · subst hjj; rw [hqf] at hq; exact hq
        · exact hall j hj (by omega)⟩)
      clear hall
      generalize hxk : xs[k] = x at x0 x1 K HX
      clear hxk
      obtain ⟨q, hq⟩ : ∃ q, p x = q := ⟨_, rfl⟩
      rw [hq] at K
      have HY := hid (HX.out q hq)
      clear HX hq
      replace K := hid K
      have i0 : (0 : Int) ≤ k := by omega
      go_wp2_with fail
      refine K.out.mono ?_
      rintro e w2 ⟨rfl, hb2⟩
      clear K
      cases q
      case false =>
        go_wp2_with fail
        go_roundw
        case rel => exact ⟨k + 1, by omega, by go_num, HY.out.2 (by first | rfl | trivial), below_step hb hb2⟩
        case measure => simp [RowKit.intOf]; omega
      case true =>
        have e5 := hid (HY.out.1 (by first | rfl | trivial))
        go_wp2_with fail
        go_ret
        exact ⟨by rw [e5.out]; rfl, below_step hb hb2⟩
    · obtain rfl : k = xs.length := by omega
      go_wp2_with fail
      go_ret
      exact ⟨by rw [fIx_none (fun j hj => hall j hj hj)]; rfl, hb⟩

set_option maxRecDepth 100000 in
set_option maxHeartbeats 1600000 in
theorem has_ins {w : World} {A : Option Addr} {c : Nat} {xs : List ID} (h : Els inEl w A xs) (hz : xs.length ≤ 9223372036854775807) (p : ID → Bool) (g : Nat) (lb : Array Value) (eg : ∀ args w, (callFunc g args).run Tryd.prog w = .ok (.enter g args) w)
    (hp : ∀ W, Below w.heap.size w W → ∀ x ∈ xs, Calls Tryd.prog g (#[.agg #[.int .i64 x.1, .int .i64 x.2]] ++ lb) W fun e w' => e = .returned (.bool (p x)) ∧ Below W.heap.size W w') :
    Calls Tryd.prog 67 #[.slice A xs.length c, .func (.func g) #[] lb] w fun e w' => e = .returned (.bool (xs.any p)) ∧ Below w.heap.size w w' := by
  have K := idx_ins (c := c) h hz p g lb eg hp
  have hA := fIx_any p xs
  generalize fIx p xs = z at K hA
  generalize xs.any p = y at hA ⊢
  clear hp
  replace K := hid K
  go_enter Tryd.func67, Tryd.ntmps67
  go_wp2_with fail
  refine K.out.mono ?_
  rintro e w2 ⟨rfl, hb⟩
  go_wp2_with fail
  go_ret
  exact ⟨by rw [← hA]; rfl, hb⟩
set_option maxRecDepth 100000 in
set_option maxHeartbeats 1600000 in
theorem nott_ins {w : World} {b : Nat} {x : ID} {q : Bool} {g : Nat} (eg : ∀ args w, (callFunc g args).run Tryd.prog w = .ok (.enter g args) w) (hc : w.cell? ⟨b, 0, none⟩ = some (.func (.func g) #[] #[]))
    (hp : ∀ W, Below w.heap.size w W → Calls Tryd.prog g #[.agg #[.int .i64 x.1, .int .i64 x.2]] W fun e w' => e = .returned (.bool q) ∧ Below W.heap.size W w') :
    Calls Tryd.prog 68 #[.agg #[.int .i64 x.1, .int .i64 x.2], .pointer (some ⟨b, 0, none⟩)] w fun e w' => e = .returned (.bool (!q)) ∧ Below w.heap.size w w' := by
  have b1 := below_alloc w (.cells ([.int .i64 x.1, .int .i64 x.2]).toArray 50)
  have R1 := Row.new w ([.int .i64 x.1, .int .i64 x.2]) 50
  have hc1 := cell_on b1 hc
  have K := hp _ b1
  replace K := hid K
  replace b1 := hid b1
  go_enter Tryd.func68, Tryd.ntmps68
  go_upto_region 1 with fail
  change Row (w.alloc (.cells #[.int .i64 x.1, .int .i64 x.2] 50)) _ _ at R1
  generalize w.alloc (.cells #[.int .i64 x.1, .int .i64 x.2] 50) = w1 at b1 R1 hc1 K ⊢
  have C0 := (R1.2 0 _ rfl).1
  have C1 := (R1.2 1 _ rfl).1
  replace b1 := b1.out
  go_wp2_with fail
  refine K.out.mono ?_
  rintro e w2 ⟨rfl, hb⟩
  go_wp2_with fail
  go_ret
  exact ⟨rfl, below_step b1 hb⟩
set_option maxRecDepth 100000 in
set_option maxHeartbeats 1600000 in
theorem every_ins {w : World} {A : Option Addr} {c : Nat} {xs : List ID} (h : Els inEl w A xs) (hz : xs.length ≤ 9223372036854775807) (p : ID → Bool) (g : Nat) (eg : ∀ args w, (callFunc g args).run Tryd.prog w = .ok (.enter g args) w)
    (hp : ∀ W, Below w.heap.size w W → ∀ x ∈ xs, Calls Tryd.prog g #[.agg #[.int .i64 x.1, .int .i64 x.2]] W fun e w' => e = .returned (.bool (p x)) ∧ Below W.heap.size W w') :
    Calls Tryd.prog 43 #[.slice A xs.length c, .func (.func g) #[] #[]] w fun e w' => e = .returned (.bool (xs.all p)) ∧ Below w.heap.size w w' := by
  have b1 := below_alloc w (.cells #[.func (.func g) #[] #[]] 72)
  have hc := box_cell w #[.func (.func g) #[] #[]] 72 0 _ rfl
  have K := has_ins (c := c) (h.below b1) hz (fun x => !p x) 68 #[.pointer (some ⟨w.heap.size, 0, none⟩)] (enters_of Tryd.func68 (by kernel_rfl) rfl) (fun W hW x hx => nott_ins eg (cell_on hW hc) (fun W' hW' => hp W' (below_step (below_step b1 hW) hW') x hx))
  have hA := any_not p xs
  generalize xs.any (fun x => !p x) = z at K hA
  generalize xs.all p = y at hA ⊢
  clear hp hc
  replace K := hid K
  go_enter Tryd.func43, Tryd.ntmps43
  go_wp2_with fail
  refine K.out.mono ?_
  rintro e w2 ⟨rfl, hb⟩
  go_wp2_with fail
  go_ret
  exact ⟨by rw [← hA]; rfl, below_step b1 hb⟩

set_option maxRecDepth 100000 in
set_option maxHeartbeats 1600000 in
theorem idx_co {w : World} {A : Option Addr} {c : Nat} {xs : List Co} (h : Els coEl w A xs) (hz : xs.length ≤ 9223372036854775807) (p : Co → Bool) (g : Nat) (lb : Array Value) (eg : ∀ args w, (callFunc g args).run Tryd.prog w = .ok (.enter g args) w)
    (hp : ∀ W, Below w.heap.size w W → ∀ x ∈ xs, Calls Tryd.prog g (#[.agg #[.string (str x.nm), .slice x.pA x.ps.length x.pc, .int .i64 x.res, .int .i64 x.slots, .slice x.iA x.is.length x.ic]] ++ lb) W fun e w' => e = .returned (.bool (p x)) ∧ Below W.heap.size W w') :
    Calls Tryd.prog 77 #[.slice A xs.length c, .func (.func g) #[] lb] w fun e w' => e = .returned (.int .i64 (fIx p xs)) ∧ Below w.heap.size w w' := by
  go_enter Tryd.func77, Tryd.ntmps77
  go_wp2_with fail
  go_loopw [5, 8] (fun _ i W => ∃ k : Nat, k ≤ xs.length ∧ i = .int .i64 k ∧ (∀ j, (hj : j < xs.length) → j < k → p xs[j] = false) ∧ Below w.heap.size w W) (fun _ i _ => xs.length - (RowKit.intOf i).toNat)
  case atStart => exact ⟨0, by omega, rfl, fun j _ hj => by omega, Below.refl _ _⟩
  case round =>
    obtain ⟨k, hk, rfl, hall, hb⟩ := hrel
    by_cases hlt : k < xs.length
    · have i1 : (k : Int) < xs.length := by omega
      obtain ⟨ad, rfl, x0, x1, x2, x3, x4⟩ := co_at (h.below hb) k hlt
      have K := hp wr hb xs[k] (List.getElem_mem hlt)
      have HX := hid (show ∀ q : Bool, p xs[k] = q → (q = true → fIx p xs = k) ∧ (q = false → ∀ j, (hj : j < xs.length) → j < k + 1 → p xs[j] = false) from fun q hq => ⟨fun hqt => fIx_some hlt (by rw [hqt] at hq; exact hq) hall, fun hqf j hj hjk => by
        by_cases hjj : j = k
        · subst hjj; rw [hqf] at hq; exact hq
        · exact hall j hj (by omega)⟩)
      clear hall
      generalize hxk : xs[k] = x at x0 x1 x2 x3 x4 K HX
      clear hxk
      obtain ⟨q, hq⟩ : ∃ q, p x = q := ⟨_, rfl⟩
      rw [hq] at K
      have HY := hid (HX.out q hq)
      clear HX hq
      replace K := hid K
      have i0 : (0 : Int) ≤ k := by omega
      go_wp2_with fail
      refine K.out.mono ?_
      rintro e w2 ⟨rfl, hb2⟩
      clear K
      cases q
      case false =>
        go_wp2_with fail
        go_roundw
        case rel => exact ⟨k + 1, by omega, by go_num, HY.out.2 (by first | rfl | trivial), below_step hb hb2⟩
        case measure => simp [RowKit.intOf]; omega
      case true =>
        have e5 := hid (HY.out.1 (by first | rfl | trivial))
        go_wp2_with fail
        go_ret
        exact ⟨by rw [e5.out]; rfl, below_step hb hb2⟩
    · obtain rfl : k = xs.length := by omega
      go_wp2_with fail
      go_ret
      exact ⟨by rw [fIx_none (fun j hj => hall j hj hj)]; rfl, hb⟩

set_option maxRecDepth 100000 in
set_option maxHeartbeats 1600000 in
theorem has_co {w : World} {A : Option Addr} {c : Nat} {xs : List Co} (h : Els coEl w A xs) (hz : xs.length ≤ 9223372036854775807) (p : Co → Bool) (g : Nat) (lb : Array Value) (eg : ∀ args w, (callFunc g args).run Tryd.prog w = .ok (.enter g args) w)
    (hp : ∀ W, Below w.heap.size w W → ∀ x ∈ xs, Calls Tryd.prog g (#[.agg #[.string (str x.nm), .slice x.pA x.ps.length x.pc, .int .i64 x.res, .int .i64 x.slots, .slice x.iA x.is.length x.ic]] ++ lb) W fun e w' => e = .returned (.bool (p x)) ∧ Below W.heap.size W w') :
    Calls Tryd.prog 63 #[.slice A xs.length c, .func (.func g) #[] lb] w fun e w' => e = .returned (.bool (xs.any p)) ∧ Below w.heap.size w w' := by
  have K := idx_co (c := c) h hz p g lb eg hp
  have hA := fIx_any p xs
  generalize fIx p xs = z at K hA
  generalize xs.any p = y at hA ⊢
  clear hp
  replace K := hid K
  go_enter Tryd.func63, Tryd.ntmps63
  go_wp2_with fail
  refine K.out.mono ?_
  rintro e w2 ⟨rfl, hb⟩
  go_wp2_with fail
  go_ret
  exact ⟨by rw [← hA]; rfl, hb⟩
set_option maxRecDepth 100000 in
set_option maxHeartbeats 1600000 in
theorem nott_co {w : World} {b : Nat} {x : Co} {q : Bool} {g : Nat} (eg : ∀ args w, (callFunc g args).run Tryd.prog w = .ok (.enter g args) w) (hc : w.cell? ⟨b, 0, none⟩ = some (.func (.func g) #[] #[]))
    (hp : ∀ W, Below w.heap.size w W → Calls Tryd.prog g #[.agg #[.string (str x.nm), .slice x.pA x.ps.length x.pc, .int .i64 x.res, .int .i64 x.slots, .slice x.iA x.is.length x.ic]] W fun e w' => e = .returned (.bool q) ∧ Below W.heap.size W w') :
    Calls Tryd.prog 64 #[.agg #[.string (str x.nm), .slice x.pA x.ps.length x.pc, .int .i64 x.res, .int .i64 x.slots, .slice x.iA x.is.length x.ic], .pointer (some ⟨b, 0, none⟩)] w fun e w' => e = .returned (.bool (!q)) ∧ Below w.heap.size w w' := by
  have b1 := below_alloc w (.cells ([.string (str x.nm), .slice x.pA x.ps.length x.pc, .int .i64 x.res, .int .i64 x.slots, .slice x.iA x.is.length x.ic]).toArray 46)
  have R1 := Row.new w ([.string (str x.nm), .slice x.pA x.ps.length x.pc, .int .i64 x.res, .int .i64 x.slots, .slice x.iA x.is.length x.ic]) 46
  have hc1 := cell_on b1 hc
  have K := hp _ b1
  replace K := hid K
  replace b1 := hid b1
  go_enter Tryd.func64, Tryd.ntmps64
  go_upto_region 1 with fail
  change Row (w.alloc (.cells #[.string (str x.nm), .slice x.pA x.ps.length x.pc, .int .i64 x.res, .int .i64 x.slots, .slice x.iA x.is.length x.ic] 46)) _ _ at R1
  generalize w.alloc (.cells #[.string (str x.nm), .slice x.pA x.ps.length x.pc, .int .i64 x.res, .int .i64 x.slots, .slice x.iA x.is.length x.ic] 46) = w1 at b1 R1 hc1 K ⊢
  have C0 := (R1.2 0 _ rfl).1
  have C1 := (R1.2 1 _ rfl).1
  have C2 := (R1.2 2 _ rfl).1
  have C3 := (R1.2 3 _ rfl).1
  have C4 := (R1.2 4 _ rfl).1
  replace b1 := b1.out
  go_wp2_with fail
  refine K.out.mono ?_
  rintro e w2 ⟨rfl, hb⟩
  go_wp2_with fail
  go_ret
  exact ⟨rfl, below_step b1 hb⟩
set_option maxRecDepth 100000 in
set_option maxHeartbeats 1600000 in
theorem every_co {w : World} {A : Option Addr} {c : Nat} {xs : List Co} (h : Els coEl w A xs) (hz : xs.length ≤ 9223372036854775807) (p : Co → Bool) (g : Nat) (eg : ∀ args w, (callFunc g args).run Tryd.prog w = .ok (.enter g args) w)
    (hp : ∀ W, Below w.heap.size w W → ∀ x ∈ xs, Calls Tryd.prog g #[.agg #[.string (str x.nm), .slice x.pA x.ps.length x.pc, .int .i64 x.res, .int .i64 x.slots, .slice x.iA x.is.length x.ic]] W fun e w' => e = .returned (.bool (p x)) ∧ Below W.heap.size W w') :
    Calls Tryd.prog 39 #[.slice A xs.length c, .func (.func g) #[] #[]] w fun e w' => e = .returned (.bool (xs.all p)) ∧ Below w.heap.size w w' := by
  have b1 := below_alloc w (.cells #[.func (.func g) #[] #[]] 47)
  have hc := box_cell w #[.func (.func g) #[] #[]] 47 0 _ rfl
  have K := has_co (c := c) (h.below b1) hz (fun x => !p x) 64 #[.pointer (some ⟨w.heap.size, 0, none⟩)] (enters_of Tryd.func64 (by kernel_rfl) rfl) (fun W hW x hx => nott_co eg (cell_on hW hc) (fun W' hW' => hp W' (below_step (below_step b1 hW) hW') x hx))
  have hA := any_not p xs
  generalize xs.any (fun x => !p x) = z at K hA
  generalize xs.all p = y at hA ⊢
  clear hp hc
  replace K := hid K
  go_enter Tryd.func39, Tryd.ntmps39
  go_wp2_with fail
  refine K.out.mono ?_
  rintro e w2 ⟨rfl, hb⟩
  go_wp2_with fail
  go_ret
  exact ⟨by rw [← hA]; rfl, below_step b1 hb⟩
end Go.Proofs.YtnkocbdbfkhgmaaDoor
