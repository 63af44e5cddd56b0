import Derived.Test.YtgkdnhbhmebmeaaDoorPlain1
import Derived.Shelf.Abstract
import Derived.Deep.LoopGhost
import Derived.StillTailTactics
import Derived.Deep.DeepCutAuto
import Derived.Test.YtgkdnhbhmebmeaaDoorRows
namespace Go.Proofs.YtgkdnhbhmebmeaaDoor
open Go.RowKit Go.Cov
/-- a slice of entries that reads L -/
abbrev EL := List ED
def Lg (w : World) (A : Option Addr) (c : Nat) (xs : List En) (L : EL) : Prop := Els enEl w A xs ∧ xs.length ≤ c ∧ xs.map En.data = L
theorem Lg.below {w w' : World} {A : Option Addr} {c : Nat} {xs : List En} {L : EL} (h : Lg w A c xs L) (hb : Below w.heap.size w w') : Lg w' A c xs L := ⟨h.1.below hb, h.2⟩
theorem Lg.len {w : World} {A : Option Addr} {c : Nat} {xs : List En} {L : EL} (h : Lg w A c xs L) : xs.length = L.length := by rw [← h.2.2, List.length_map]
theorem en_data_at {xs : List En} {L : EL} (h : xs.map En.data = L) (k : Nat) (hk : k < xs.length) (hk' : k < L.length) : L[k] = xs[k].data := by
  subst h
  rw [List.getElem_map]
def ixE (p : En → Bool) (xs : List En) : Int := match xs.findIdx? p with | some i => i | none => -1
theorem ixE_some {p : En → Bool} {xs : List En} {k : Nat} (h : k < xs.length) (hp : p xs[k] = true) (hb : ∀ j, (hj : j < xs.length) → j < k → p xs[j] = false) : ixE p xs = k := by
  unfold ixE
  have : xs.findIdx? p = some k := by
    rw [List.findIdx?_eq_some_iff_getElem]
    exact ⟨h, hp, fun j hj => by rw [hb j (by omega) hj]; simp⟩
  rw [this]
theorem ixE_none {p : En → Bool} {xs : List En} (hb : ∀ j, (hj : j < xs.length) → p xs[j] = false) : ixE p xs = -1 := by
  unfold ixE
  have : xs.findIdx? p = none := by
    rw [List.findIdx?_eq_none_iff]
    intro x hx
    obtain ⟨i, hi, rfl⟩ := List.getElem_of_mem hx
    exact hb i hi
  rw [this]
set_option maxHeartbeats 1000000 in
set_option maxRecDepth 100000 in
theorem indexE_any {A : Option Addr} {c g : Nat} {xs : List En} {bs : Array Value} {w : World} (p : En → Bool) (h : Els enEl w A xs) (hz : xs.length ≤ 140737488351236) (eg : ∀ args w, (callFunc g args).run Tryd.prog w = .ok (.enter g args) w)
    (K : ∀ i, (hi : i < xs.length) → ∀ W, Below w.heap.size w W → Calls Tryd.prog g (#[xs[i].agg] ++ bs) W fun e w' => e = .returned (.bool (p xs[i])) ∧ Below W.heap.size W w') :
    Calls Tryd.prog 69 #[.slice A xs.length c, .func (.func g) #[] bs] w fun e w' => e = .returned (.int .i64 (ixE p xs)) ∧ Below w.heap.size w w' := by
  have K2 := hid K
  clear K
  go_enter Tryd.func69, Tryd.ntmps69
  go_wp2_with fail
  go_loopw [8] (fun i W => ∃ k : Nat, k ≤ xs.length ∧ i = .int .i64 k ∧ (∀ j, (hj : j < xs.length) → j < k → p xs[j] = false) ∧ Below w.heap.size w W) (fun i _ => xs.length - (intOf i).toNat)
  case atStart => exact ⟨0, by omega, rfl, fun j hj hk => by omega, Below.refl _ _⟩
  case round =>
    obtain ⟨k, hk, rfl, hf, hb⟩ := hrel
    by_cases hlt : k < xs.length
    · obtain ⟨ad, rfl, h1, h2, h3, _⟩ := en_at (h.below hb) k hlt
      have Kk := hid (K2.out k hlt)
      generalize hx : xs[k] = x at h1 h2 h3 Kk
      unfold En.agg at Kk
      have i1 : (k : Int) < xs.length := by omega
      go_wp2_with fail
      refine (Kk.out wr hb).mono ?_
      rintro e w2 ⟨rfl, hb2⟩
      have hb3 := below_step hb hb2
      cases hp : p x with
      | true =>
        have hix := hid (ixE_some (p := p) hlt (by rw [hx]; exact hp) hf)
        clear hf hx
        go_wp2_with fail
        go_ret
        exact ⟨by rw [hix.out]; rfl, hb3⟩
      | false =>
        have HF := hid hf
        have HX := hid hx
        clear hf hx
        go_wp2_with fail
        go_roundw
        case rel =>
          refine ⟨k + 1, by omega, by go_num, fun j hj hjk => ?_, hb3⟩
          by_cases hjj : j = k
          · subst hjj; rw [HX.out]; exact hp
          · exact HF.out j hj (by omega)
        case measure => simp [intOf]; omega
    · obtain rfl : k = xs.length := by omega
      have hix := hid (ixE_none (p := p) fun j hj => hf j hj hj)
      clear hf
      go_wp2_with fail
      go_ret
      exact ⟨by rw [hix.out]; rfl, hb⟩
theorem right1_any (x : En) (w : World) :
    Calls Tryd.prog 68 #[x.agg] w fun e w' => e = .returned (.bool (decide (8192 < x.op.length))) ∧ Below w.heap.size w w' := by
  unfold En.agg
  have hb := below_alloc w (.cells #[.int .i64 x.c, .int .i64 x.r, .slice x.A x.op.length x.cap] 43)
  by_cases hlt : 8192 < x.op.length
  · rw [decide_eq_true hlt]
    have i1 : (8192 : Int) < x.op.length := by omega
    go_enter Tryd.func68, Tryd.ntmps68
    go_wp2_with fail
    go_ret
    exact ⟨by simp, hb⟩
  · rw [decide_eq_false hlt]
    have i1 : ¬ (8192 : Int) < x.op.length := by omega
    go_enter Tryd.func68, Tryd.ntmps68
    go_wp2_with fail
    go_ret
    exact ⟨by simp, hb⟩
def badE (L : EL) : Bool := L.any fun a => decide (8192 < a.2.2.length)
theorem ixE_bad (xs : List En) : (0 ≤ ixE (fun x => decide (8192 < x.op.length)) xs ∧ badE (xs.map En.data) = true) ∨ (¬ 0 ≤ ixE (fun x => decide (8192 < x.op.length)) xs ∧ badE (xs.map En.data) = false) := by
  unfold ixE badE
  rw [List.any_map]
  cases h : xs.findIdx? (fun x => decide (8192 < x.op.length)) with
  | none =>
    refine .inr ⟨by decide, ?_⟩
    rw [List.any_eq_false]
    exact fun x hx => by rw [Bool.not_eq_true]; exact List.findIdx?_eq_none_iff.1 h x hx
  | some i =>
    obtain ⟨hi, hp, _⟩ := List.findIdx?_eq_some_iff_getElem.1 h
    refine .inl ⟨by simp, ?_⟩
    rw [List.any_eq_true]
    exact ⟨xs[i], List.getElem_mem hi, hp⟩
theorem contains_any {A : Option Addr} {c : Nat} {xs : List En} {L : EL} {w : World} (h : Lg w A c xs L) (hz : xs.length ≤ 140737488351236) :
    Calls Tryd.prog 67 #[.slice A xs.length c, .func (.func 68) #[] #[]] w fun e w' => e = .returned (.bool (badE L)) ∧ Below w.heap.size w w' := by
  have eg : ∀ args w, (callFunc 68 args).run Tryd.prog w = .ok (.enter 68 args) w := enters_of Tryd.func68 (by kernel_rfl) rfl
  have K := hid (indexE_any (c := c) (bs := #[]) (fun x => decide (8192 < x.op.length)) h.1 hz eg (fun i hi W hW => right1_any xs[i] W))
  have hbad := ixE_bad xs
  rw [h.2.2] at hbad
  generalize ixE (fun x => decide (8192 < x.op.length)) xs = z at K hbad
  rcases hbad with ⟨h1, h2⟩ | ⟨h1, h2⟩
  all_goals
    rw [h2]
    clear h2
    go_enter Tryd.func67, Tryd.ntmps67
    go_wp2_with fail
    refine K.out.mono ?_
    rintro e w2 ⟨rfl, hb2⟩
    go_wp2_with fail
    go_ret
    exact ⟨by simp [h1], hb2⟩
/-- may it be a log? -/
def rightL (s : Int) (L : EL) : Bool := decide (0 ≤ s) && decide (L.length ≤ 64) && decide (s ≤ 1099511627776 - L.length) && !badE L
set_option maxHeartbeats 1000000 in
theorem logright_any {s : Int} {A : Option Addr} {c : Nat} {xs : List En} {L : EL} {w : World} (h : Lg w A c xs L) :
    Calls Tryd.prog 65 #[.agg #[.int .i64 s, .slice A xs.length c]] w fun e w' => e = .returned (.bool (rightL s L)) ∧ Below w.heap.size w w' := by
  have hb := below_alloc w (.cells #[.int .i64 s, .slice A xs.length c] 26)
  have hl := h.len
  unfold rightL
  rw [← hl]
  clear hl
  by_cases c1 : 0 ≤ s
  · by_cases c2 : xs.length ≤ 64
    · have j2 : (xs.length : Int) ≤ 64 := by omega
      have e1 : IntKind.i64.wrap (1099511627776 - (xs.length : Int)) = 1099511627776 - (xs.length : Int) := wrap_of _ (by omega) (by omega)
      by_cases c3 : s ≤ 1099511627776 - (xs.length : Int)
      · have K := hid (contains_any (h.below hb) (by omega))
        rw [decide_eq_true c1, decide_eq_true c2, decide_eq_true c3]
        generalize badE L = z at K
        go_enter Tryd.func65, Tryd.ntmps65
        go_wp2_with fail
        refine K.out.mono ?_
        rintro e w2 ⟨rfl, hb2⟩
        go_wp2_with fail
        go_ret
        exact ⟨rfl, below_step hb hb2⟩
      · rw [decide_eq_false c3, Bool.and_false, Bool.false_and]
        go_enter Tryd.func65, Tryd.ntmps65
        go_wp2_with fail
        go_ret
        exact ⟨rfl, hb⟩
    · have j2 : ¬ (xs.length : Int) ≤ 64 := by omega
      rw [decide_eq_false c2, Bool.and_false, Bool.false_and, Bool.false_and]
      go_enter Tryd.func65, Tryd.ntmps65
      go_wp2_with fail
      go_ret
      exact ⟨rfl, hb⟩
  · rw [decide_eq_false c1, Bool.false_and, Bool.false_and, Bool.false_and]
    go_enter Tryd.func65, Tryd.ntmps65
    go_wp2_with fail
    go_ret
    exact ⟨rfl, hb⟩
def endL (s : Int) (L : EL) : Int := if rightL s L then s + L.length else 0
theorem rightL_iff {s : Int} {L : EL} : rightL s L = true ↔ 0 ≤ s ∧ L.length ≤ 64 ∧ s + L.length ≤ 1099511627776 ∧ badE L = false := by
  unfold rightL
  simp only [Bool.and_eq_true, decide_eq_true_eq, Bool.not_eq_true']
  constructor
  · rintro ⟨⟨⟨h1, h2⟩, h3⟩, h4⟩; exact ⟨h1, h2, by omega, h4⟩
  · rintro ⟨h1, h2, h3, h4⟩; exact ⟨⟨⟨h1, h2⟩, by omega⟩, h4⟩
theorem end_any {s : Int} {A : Option Addr} {c : Nat} {xs : List En} {L : EL} {w : World} (h : Lg w A c xs L) :
    Calls Tryd.prog 66 #[.agg #[.int .i64 s, .slice A xs.length c]] w fun e w' => e = .returned (.int .i64 (endL s L)) ∧ Below w.heap.size w w' := by
  have hb := below_alloc w (.cells #[.int .i64 s, .slice A xs.length c] 26)
  have K := hid (logright_any (s := s) (h.below hb))
  have S0 := box_cell w #[.int .i64 s, .slice A xs.length c] 26 0 _ rfl
  have S1 := box_cell w #[.int .i64 s, .slice A xs.length c] 26 1 _ rfl
  have hl := h.len
  unfold endL
  cases hr : rightL s L with
  | false =>
    rw [if_neg (by decide)]
    rw [hr] at K
    clear hl hr
    go_enter Tryd.func66, Tryd.ntmps66
    go_wp2_with fail
    refine K.out.mono ?_
    rintro e w2 ⟨rfl, hb2⟩
    go_wp2_with fail
    go_ret
    exact ⟨rfl, below_step hb hb2⟩
  | true =>
    rw [if_pos rfl]
    rw [hr] at K
    obtain ⟨r1, r2, r3, _⟩ := rightL_iff.1 hr
    rw [← hl]
    have e1 : IntKind.i64.wrap (s + (xs.length : Int)) = s + (xs.length : Int) := wrap_of _ (by omega) (by omega)
    clear hl hr r1 r2 r3
    go_enter Tryd.func66, Tryd.ntmps66
    go_wp2_with fail
    refine K.out.mono ?_
    rintro e w2 ⟨rfl, hb2⟩
    have S0 := cell_on hb2 S0
    have S1 := cell_on hb2 S1
    go_wp2_with fail
    go_ret
    exact ⟨by rw [← e1]; rfl, below_step hb hb2⟩
end Go.Proofs.YtgkdnhbhmebmeaaDoor
