import Derived.Test.YtbfjhclibbonjaaLogD
import Derived.RangeFuncNested
import Derived.RangeFuncBound
import Derived.RangeFuncCalls
import Derived.RangeFuncLeaves
import Derived.Shelf.Abstract
import Derived.Shelf.RegionOpen
import Derived.WalkKit
import Derived.OwnWalkIn
import Derived.TacticsInMore
import Derived.LoopNIn
import Derived.LoopIn
namespace Go.Proofs.Ytbfjhclibbonjaa
open Go.RowKit Go.Cov Go.Shelf
attribute [local go_sem] Oper.semAt_some
/-- what has come when k rounds are over: from the end -/
def dnAt (xs : List En) (k : Nat) : Nat × En := (xs.length - 1 - k, xs.getD (xs.length - 1 - k) default)
def dn (xs : List En) (k : Nat) : List (Nat × En) := (List.range k).map (dnAt xs)
theorem dn_succ (xs : List En) (k : Nat) : dn xs (k + 1) = dn xs k ++ [dnAt xs k] := by simp [dn, List.range_succ]
theorem dn_length (xs : List En) (k : Nat) : (dn xs k).length = k := by simp [dn]
theorem dnAt_at {xs : List En} {k m : Nat} (hm : m = xs.length - 1 - k) (h : m < xs.length) : dnAt xs k = (m, xs[m]) := by
  unfold dnAt
  rw [← hm, List.getD_eq_getElem?_getD, List.getElem?_eq_getElem h]; rfl
abbrev encE (x : Nat × En) : Array Value := #[.int .i64 (x.1 : Int), .agg #[.int .i64 x.2.c, .int .i64 x.2.r, .slice x.2.A x.2.op.length x.2.cap]]
set_option maxRecDepth 100000 in
set_option maxHeartbeats 2000000 in
theorem back1_in (F : Fence) (n : Nat) (h33 : F.fn 33) (hro : F.round = none) (hn : 1 ≤ n) (l Bs : Nat) {A : Option Addr} {c : Nat} {xs : List En} {w0 : World} (h : Els enEl w0 A xs) (hz : xs.length ≤ 100000) (hBs : w0.cell? ⟨Bs, 0, none⟩ = some (.slice A xs.length c)) (J Jx : List (Nat × En) → World → Prop)
    (hY : ∀ pre x W, J pre W → pre.length < xs.length → YieldAt F (n - 1) Try.prog l (encE x) W fun e W' =>
      (e = .returned (.bool true) ∧ J (pre ++ [x]) W' ∧ Below w0.heap.size W W') ∨ (e = .returned (.bool false) ∧ Jx (pre ++ [x]) W'))
    (W : World) (hW : Below w0.heap.size w0 W) (h0 : J [] W) :
    CallsIn F n Try.prog 33 #[.func (.yield l) #[] #[], .pointer (some ⟨Bs, 0, none⟩)] W fun e W' => (∃ v, e = .returned v) ∧
      ((∃ ys, ys = dn xs xs.length ∧ J ys W') ∨ (∃ pre, (∃ k, k ≤ xs.length ∧ pre = dn xs k) ∧ Jx pre W')) := by
  refine callsIn_of_wp Try.func33 rfl h33 ?_ hro
  simp only [Try.ntmps33, List.size_toArray, List.length_cons, List.length_nil, Nat.reduceAdd, Nat.reduceSub, Array.replicate_succ, Array.replicate_zero, List.push_toArray, List.append_toArray, List.nil_append, List.cons_append]
  have hBW := cell_on hW hBs
  have e1 : IntKind.i64.wrap ((xs.length : Int) - 1) = (xs.length : Int) - 1 := wrap_of _ (by omega) (by omega)
  gi_wp2
  gi_loopw [3] (fun i wr => ∃ (k : Nat) (z : Int), k ≤ xs.length ∧ i = .int .i64 z ∧ z = (xs.length : Int) - 1 - k ∧ J (dn xs k) wr ∧ Below w0.heap.size w0 wr)
    (fun i _ => ((intOf i) + 1).toNat)
  case atStart => exact ⟨0, _, Nat.zero_le _, rfl, by omega, h0, hW⟩
  case round =>
    obtain ⟨k, z, hk, rfl, hzk, hJs, hnx⟩ := hrel
    have hBr := cell_on hnx hBs
    by_cases hlt : k < xs.length
    · obtain ⟨m, rfl⟩ : ∃ m : Nat, z = (m : Int) := ⟨z.toNat, by omega⟩
      have hm : m < xs.length := by omega
      have hd := dnAt_at (k := k) (show m = xs.length - 1 - k by omega) hm
      obtain ⟨ad, rfl, g1, g2, g3, _⟩ := en_at (h.below hnx) m hm
      have hd := hid hd
      generalize xs[m] = x at hd g1 g2 g3
      obtain ⟨fn, tmps, assign, body, hy, hR⟩ := hY _ (m, x) wr hJs (by rw [dn_length]; exact hlt)
      dsimp only [encE] at hy
      have i0 : (0 : Int) ≤ m := by omega
      have i1 : (m : Int) < xs.length := by omega
      have e2 : IntKind.i64.wrap ((m : Int) - 1) = (m : Int) - 1 := wrap_of _ (by omega) (by omega)
      have HZ := hid hzk
      clear hzk
      gi_wp2
      refine hR.mono ?_
      rintro e W3 (⟨rfl, hJ3, hk3⟩ | ⟨rfl, hJx3⟩)
      · gi_wp2
        go_roundw
        case rel => exact ⟨k + 1, _, by omega, rfl, by have := HZ.out; omega, by rw [dn_succ, hd.out]; exact hJ3, hnx.trans hk3⟩
        case measure => simp [intOf]
      · gi_wp2
        refine bodyPost_ret (results_none rfl _ _ _) rfl ?_
        exact ⟨⟨_, rfl⟩, .inr ⟨_, ⟨k + 1, by omega, by rw [dn_succ, hd.out]⟩, hJx3⟩⟩
    · obtain rfl : k = xs.length := by omega
      have hz0 : ¬ (0 : Int) ≤ z := by omega
      gi_wp2
      go_end0
      exact ⟨⟨_, rfl⟩, .inl hJs⟩
set_option maxHeartbeats 1000000 in
theorem back_in (F : Fence) (n : Nat) (h27 : F.fn 27) (hro : F.round = none) (a : Option Addr) (len cap : Nat) (w : World) :
    CallsIn F n Try.prog 27 #[.slice a len cap] w fun e w' => e = .returned (.func (.func 33) #[] #[.pointer (some ⟨w.heap.size, 0, none⟩)]) ∧ w' = w.alloc (.cells #[.slice a len cap] 24) := by
  refine callsIn_of_wp Try.func27 rfl h27 ?_ hro
  simp only [Try.ntmps27, List.size_toArray, List.length_cons, List.length_nil, Nat.reduceAdd, Nat.reduceSub, Array.replicate_succ, Array.replicate_zero, List.push_toArray, List.append_toArray, List.nil_append, List.cons_append]
  gi_wp2
  go_ret
  exact ⟨rfl, rfl⟩
theorem back_stops (F : Fence) (n : Nat) (h33 : F.fn 33) (hro : F.round = none) (hn : 1 ≤ n) (Bs : Nat) {A : Option Addr} {c : Nat} {xs : List En} {w0 : World} (h : Els enEl w0 A xs) (hz : xs.length ≤ 100000) (hBs : w0.cell? ⟨Bs, 0, none⟩ = some (.slice A xs.length c)) :
    SeqStopsK F n Try.prog 33 #[.pointer (some ⟨Bs, 0, none⟩)] encE (Below w0.heap.size) (fun ys => ys = dn xs xs.length) (fun pre => ∃ k, k ≤ xs.length ∧ pre = dn xs k) xs.length w0 :=
  fun l J Jx W hW _ _ hY h0 => back1_in F n h33 hro hn l Bs h hz hBs J Jx hY W hW h0
end Go.Proofs.Ytbfjhclibbonjaa
