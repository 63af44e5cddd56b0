import Derived.Test.YtoceipdkmafagaaLists
import Derived.WalkSpells
import Derived.Test.YtoceipdkmafagaaRows
import Derived.Deep.QuietTactic
import Derived.BigQuiet
import Derived.Deep.LoopGhost
import Derived.StillTailTactics
namespace Go.Proofs.Ytoceipdkmafagaa
open Go.RowKit Go.Cov
theorem infoB : (Try.prog.info? 5).map (fun i => (i.zero, i.size, i.bytes)) = some (some (.int .u8 0), 1, 1) := by kernel_rfl
set_option maxHeartbeats 800000 in
theorem put64_any (n : Int) (s : Nat) (hs : s ≤ 8) (w : World) :
    Calls Try.prog 63 #[.int .i64 n, .int .i64 s] w fun e w' => ∃ v, e = .returned v ∧ w'.ownsRow w.heap.size 5 1 v s ((be s n).map byt) ∧ Below w.heap.size w w' := by
  go_enter Try.func63, Try.ntmps63
  go_wp2_with (at_make; refine wpList_mkn rfl (.tmp 7) (.tmp 7) 22 rfl w.heap.size 5 Try.underlying22 infoB s rfl rfl rfl rfl (by omega) (by omega) (Nat.le_refl _) ?_; intro w2 hown2 hg2)
  have hb2 : Below w.heap.size w w2 := (Below.refl _ _).grown hg2 (Nat.le_refl _) (by intro k hk; cases hk)
  have hz : (madeCells (Value.int IntKind.u8 0).cells (s * 1)).toList = (List.replicate s (0 : UInt8)).map byt := by
    rw [List.map_replicate]; simp [madeCells, Value.cells, byt, Nat.mod_one, List.map_const']
  rw [hz] at hown2
  clear hz
  go_loopw [11] (fun i W => ∃ (k : Nat) (xs : List UInt8), k ≤ s ∧ i = .int .i64 k ∧ xs.length = s ∧ (∀ j, j < k → xs[s - 1 - j]? = some (bt n j)) ∧ W.ownsRow w.heap.size 5 1 (.slice (some ⟨w.heap.size, 0, none⟩) s s) s (xs.map byt) ∧ w2.grownBy W (some w.heap.size)) (fun i _ => s - (intOf i).toNat)
  case atStart => exact ⟨0, List.replicate s 0, Nat.zero_le _, rfl, by simp, fun j hj => by omega, hown2, World.grownBy.refl _ _⟩
  case round =>
    obtain ⟨k, xs, hk, rfl, hxl, hxs, hown, hg⟩ := hrel
    by_cases hlt : k < s
    · have ek : IntKind.i64.wrap (8 * (k : Int)) = ((8 * k : Nat) : Int) := by simp [IntKind.wrap, IntKind.signed, IntKind.bits]; omega
      have e1 : IntKind.i64.wrap ((s : Int) - 1) = (s : Int) - 1 := by simp [IntKind.wrap, IntKind.signed, IntKind.bits]; omega
      obtain ⟨q, hq, hqs, e2⟩ : ∃ q : Nat, Hid (q = s - 1 - k) ∧ q < s ∧ IntKind.i64.wrap ((s : Int) - 1 - k) = (q : Int) := ⟨s - 1 - k, hid rfl, by omega, by simp [IntKind.wrap, IntKind.signed, IntKind.bits]; omega⟩
      have hck := hown.cellAt q (by omega)
      have hfk := hown.frozenAt q
      have eb : byt (bt n k) = .int .u8 (n / 2 ^ (8 * k) % 256) := by unfold byt; rw [bt_int]
      obtain ⟨b1, b2⟩ := hown.stored q (byt (bt n k))
      rw [← List.map_set] at b1
      rw [eb] at b1 b2
      clear eb
      go_wp2_with fail
      go_roundw
      case rel => exact ⟨k + 1, xs.set q (bt n k), by omega, by go_num, by simpa using hxl, fun j hj => by
        rw [List.getElem?_set]
        by_cases h : k = j
        · subst h; rw [if_pos hq.out, if_pos (by omega)]
        · rw [if_neg (by have := hq.out; omega)]; exact hxs j (by omega), b1, grown_after hg b2 (fun j hj => .inr rfl)⟩
      case measure => simp [intOf]; omega
    · obtain rfl : k = s := by omega
      have hbr : Below w.heap.size w wr := hb2.grown hg hb2.size (by intro j hj; cases hj; omega)
      have hxe : xs = be k n := by
        apply List.ext_getElem?
        intro j
        by_cases hj : j < k
        · have h1 := hxs (k - 1 - j) (by omega)
          have h2 := be_at k n (k - 1 - j) (by omega)
          rw [show k - 1 - (k - 1 - j) = j by omega] at h1 h2
          rw [h1, h2]
        · rw [List.getElem?_eq_none (by omega), List.getElem?_eq_none (by rw [be_length]; omega)]
      rw [hxe] at hown
      go_wp2_with fail
      go_ret
      exact ⟨_, rfl, hown, hbr⟩
set_option maxHeartbeats 800000 in
theorem putint_any (n : Int) (s : Nat) (hs : s ≤ 8) (w : World) :
    Calls Try.prog 53 #[.int .i64 n, .int .i64 s] w fun e w' => ∃ v, e = .returned v ∧ w'.ownsRow w.heap.size 5 1 v s ((be s n).map byt) ∧ Below w.heap.size w w' := by
  go_enter Try.func53, Try.ntmps53
  go_wp2_with (at_make; refine wpList_mkn rfl (.tmp 7) (.tmp 7) 22 rfl w.heap.size 5 Try.underlying22 infoB s rfl rfl rfl rfl (by omega) (by omega) (Nat.le_refl _) ?_; intro w2 hown2 hg2)
  have hb2 : Below w.heap.size w w2 := (Below.refl _ _).grown hg2 (Nat.le_refl _) (by intro k hk; cases hk)
  have hz : (madeCells (Value.int IntKind.u8 0).cells (s * 1)).toList = (List.replicate s (0 : UInt8)).map byt := by
    rw [List.map_replicate]; simp [madeCells, Value.cells, byt, Nat.mod_one, List.map_const']
  rw [hz] at hown2
  clear hz
  go_loopw [11] (fun i W => ∃ (k : Nat) (xs : List UInt8), k ≤ s ∧ i = .int .i64 k ∧ xs.length = s ∧ (∀ j, j < k → xs[s - 1 - j]? = some (bt n j)) ∧ W.ownsRow w.heap.size 5 1 (.slice (some ⟨w.heap.size, 0, none⟩) s s) s (xs.map byt) ∧ w2.grownBy W (some w.heap.size)) (fun i _ => s - (intOf i).toNat)
  case atStart => exact ⟨0, List.replicate s 0, Nat.zero_le _, rfl, by simp, fun j hj => by omega, hown2, World.grownBy.refl _ _⟩
  case round =>
    obtain ⟨k, xs, hk, rfl, hxl, hxs, hown, hg⟩ := hrel
    by_cases hlt : k < s
    · have ek : IntKind.i64.wrap (8 * (k : Int)) = ((8 * k : Nat) : Int) := by simp [IntKind.wrap, IntKind.signed, IntKind.bits]; omega
      have e1 : IntKind.i64.wrap ((s : Int) - 1) = (s : Int) - 1 := by simp [IntKind.wrap, IntKind.signed, IntKind.bits]; omega
      obtain ⟨q, hq, hqs, e2⟩ : ∃ q : Nat, Hid (q = s - 1 - k) ∧ q < s ∧ IntKind.i64.wrap ((s : Int) - 1 - k) = (q : Int) := ⟨s - 1 - k, hid rfl, by omega, by simp [IntKind.wrap, IntKind.signed, IntKind.bits]; omega⟩
      have hck := hown.cellAt q (by omega)
      have hfk := hown.frozenAt q
      have eb : byt (bt n k) = .int .u8 (n / 2 ^ (8 * k) % 256) := by unfold byt; rw [bt_int]
      obtain ⟨b1, b2⟩ := hown.stored q (byt (bt n k))
      rw [← List.map_set] at b1
      rw [eb] at b1 b2
      clear eb
      go_wp2_with fail
      go_roundw
      case rel => exact ⟨k + 1, xs.set q (bt n k), by omega, by go_num, by simpa using hxl, fun j hj => by
        rw [List.getElem?_set]
        by_cases h : k = j
        · subst h; rw [if_pos hq.out, if_pos (by omega)]
        · rw [if_neg (by have := hq.out; omega)]; exact hxs j (by omega), b1, grown_after hg b2 (fun j hj => .inr rfl)⟩
      case measure => simp [intOf]; omega
    · obtain rfl : k = s := by omega
      have hbr : Below w.heap.size w wr := hb2.grown hg hb2.size (by intro j hj; cases hj; omega)
      have hxe : xs = be k n := by
        apply List.ext_getElem?
        intro j
        by_cases hj : j < k
        · have h1 := hxs (k - 1 - j) (by omega)
          have h2 := be_at k n (k - 1 - j) (by omega)
          rw [show k - 1 - (k - 1 - j) = j by omega] at h1 h2
          rw [h1, h2]
        · rw [List.getElem?_eq_none (by omega), List.getElem?_eq_none (by rw [be_length]; omega)]
      rw [hxe] at hown
      go_wp2_with fail
      go_ret
      exact ⟨_, rfl, hown, hbr⟩
end Go.Proofs.Ytoceipdkmafagaa
