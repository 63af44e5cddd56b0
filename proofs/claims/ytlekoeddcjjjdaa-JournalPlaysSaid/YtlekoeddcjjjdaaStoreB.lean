import Derived.Test.YtlekoeddcjjjdaaStoreA
import Derived.Shelf.Abstract
import Derived.Deep.LoopGhost
import Derived.StillTailTactics
namespace Go.Proofs.Ytlekoeddcjjjdaa
open Go.RowKit Go.Cov Go.Lib
/-- the first place, or -1 -/
def ixF (p : Pr → Bool) (xs : List Pr) : Int := match xs.findIdx? p with | some i => i | none => -1
theorem ixF_some {p : Pr → Bool} {xs : List Pr} {k : Nat} (h : k < xs.length) (hp : p xs[k] = true) (hb : ∀ j, (hj : j < xs.length) → j < k → p xs[j] = false) : ixF p xs = k := by
  unfold ixF
  have : xs.findIdx? p = some k := by
    rw [List.findIdx?_eq_some_iff_getElem]
    exact ⟨h, hp, fun j hj => by rw [hb j (by omega) hj]; simp⟩
  rw [this]
theorem ixF_none {p : Pr → Bool} {xs : List Pr} (hb : ∀ j, (hj : j < xs.length) → p xs[j] = false) : ixF p xs = -1 := by
  unfold ixF
  have : xs.findIdx? p = none := by
    rw [List.findIdx?_eq_none_iff]
    intro x hx
    obtain ⟨i, hi, rfl⟩ := List.getElem_of_mem hx
    exact hb i hi
  rw [this]
set_option maxHeartbeats 1000000 in
set_option maxRecDepth 100000 in
theorem index_any {A : Option Addr} {c g : Nat} {xs : List Pr} {bs : Array Value} {w : World} (p : Pr → Bool) (h : Els prEl w A xs) (hz : xs.length ≤ 140737488351236) (eg : ∀ args w, (callFunc g args).run Try.prog w = .ok (.enter g args) w)
    (K : ∀ i, (hi : i < xs.length) → ∀ W, Below w.heap.size w W → Calls Try.prog g (#[.agg #[xs[i].key, xs[i].val]] ++ bs) W fun e w' => e = .returned (.bool (p xs[i])) ∧ Below W.heap.size W w') :
    Calls Try.prog 40 #[.slice A xs.length c, .func (.func g) #[] bs] w fun e w' => e = .returned (.int .i64 (ixF p xs)) ∧ Below w.heap.size w w' := by
  have K2 := hid K
  clear K
  go_enter Try.func40, Try.ntmps40
  go_wp2_with fail
  go_loopw [8] (fun i W => ∃ k : Nat, k ≤ xs.length ∧ i = .int .i64 k ∧ (∀ j, (hj : j < xs.length) → j < k → p xs[j] = false) ∧ Below w.heap.size w W) (fun i _ => xs.length - (intOf i).toNat)
  case atStart => exact ⟨0, by omega, rfl, fun j hj hk => by omega, Below.refl _ _⟩
  case round =>
    obtain ⟨k, hk, rfl, hf, hb⟩ := hrel
    by_cases hlt : k < xs.length
    · obtain ⟨ad, rfl, h1, h2, _, _⟩ := pr_at (h.below hb) k hlt
      have Kk := hid (K2.out k hlt)
      generalize hx : xs[k] = x at h1 h2 Kk
      have i1 : (k : Int) < xs.length := by omega
      go_wp2_with fail
      refine (Kk.out wr hb).mono ?_
      rintro e w2 ⟨rfl, hb2⟩
      have hb3 := below_step hb hb2
      cases hp : p x with
      | true =>
        have hix := hid (ixF_some (p := p) hlt (by rw [hx]; exact hp) hf)
        clear hf hx
        go_wp2_with fail
        go_ret
        exact ⟨by rw [hix.out]; rfl, hb3⟩
      | false =>
        have HF := hid hf
        have HX := hid hx
        clear hf hx
        go_wp2_with fail
        go_roundw
        case rel =>
          refine ⟨k + 1, by omega, by go_num, fun j hj hjk => ?_, hb3⟩
          by_cases hjj : j = k
          · subst hjj; rw [HX.out]; exact hp
          · exact HF.out j hj (by omega)
        case measure => simp [intOf]; omega
    · obtain rfl : k = xs.length := by omega
      have hix := hid (ixF_none (p := p) fun j hj => hf j hj hj)
      clear hf
      go_wp2_with fail
      go_ret
      exact ⟨by rw [hix.out]; rfl, hb⟩
theorem find_any {A B : Option Addr} {c d : Nat} {xs : List Pr} {m : List UInt8} {w : World} (h : Els prEl w A xs) (hz : xs.length ≤ 140737488351236) (g : Rd w B (m.map byt)) :
    Calls Try.prog 39 #[.slice A xs.length c, .slice B m.length d] w fun e w' => e = .returned (.int .i64 (ixF (fun a => decide (a.k = m)) xs)) ∧ Below w.heap.size w w' := by
  have eg : ∀ args w, (callFunc 47 args).run Try.prog w = .ok (.enter 47 args) w := enters_of Try.func47 (by kernel_rfl) rfl
  have hb := below_alloc w (.cells #[.slice B m.length d] 30)
  have hc := box_cell w #[.slice B m.length d] 30 0 _ rfl
  have K := hid (index_any (c := c) (bs := #[.pointer (some ⟨w.heap.size, 0, none⟩)]) (fun a => decide (a.k = m)) (h.below hb) hz eg (fun i hi W hW => find1_any (d := d) (((h.below hb).below hW) |> fun hh => (pr_at hh i hi).choose_spec.2.2.2.1) (cell_on hW hc) ((g.below hb).below hW)))
  generalize ixF (fun a => decide (a.k = m)) xs = z at K
  clear eg
  go_enter Try.func39, Try.ntmps39
  go_wp2_with fail
  refine K.out.mono ?_
  rintro e w2 ⟨rfl, hb2⟩
  go_wp2_with fail
  go_ret
  exact ⟨rfl, below_step hb hb2⟩
end Go.Proofs.Ytlekoeddcjjjdaa
