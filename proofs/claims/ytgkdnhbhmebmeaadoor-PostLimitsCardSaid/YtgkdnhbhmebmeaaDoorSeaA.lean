import Derived.Test.YtgkdnhbhmebmeaaDoorWires1
import Derived.Test.YtgkdnhbhmebmeaaDoorPlain1
import Derived.Deep.QuietTactic
import Derived.BigQuiet
import Derived.Deep.LoopGhost
namespace Go.Proofs.YtgkdnhbhmebmeaaDoor
open Go.RowKit Go.Cov

theorem ofInt_u32 (a : BitVec 32) : BitVec.ofInt 32 (a.toNat : Int) = a := by
  rw [BitVec.ofInt_natCast]; simp
theorem wrap_u32 (a : BitVec 32) : IntKind.u32.wrap (a.toNat : Int) = (a.toNat : Int) := by
  have := a.isLt
  simp only [IntKind.wrap, IntKind.signed, IntKind.bits]
  simp
  omega
theorem xor_u32 (a b : BitVec 32) : bits .xor .u32 (a.toNat : Int) (b.toNat : Int) = ((a ^^^ b).toNat : Int) := by
  show IntKind.u32.wrap ((BitVec.ofInt 32 (a.toNat : Int) ^^^ BitVec.ofInt 32 (b.toNat : Int)).toNat : Int) = _
  rw [ofInt_u32, ofInt_u32, wrap_u32]
theorem and_u32 (a b : BitVec 32) : bits .and .u32 (a.toNat : Int) (b.toNat : Int) = ((a &&& b).toNat : Int) := by
  show IntKind.u32.wrap ((BitVec.ofInt 32 (a.toNat : Int) &&& BitVec.ofInt 32 (b.toNat : Int)).toNat : Int) = _
  rw [ofInt_u32, ofInt_u32, wrap_u32]
theorem ext_toNat (b : UInt8) : ((Crc.ext b).toNat : Int) = (b.toNat : Int) % 4294967296 := by
  have := b.toNat_lt
  unfold Crc.ext
  rw [BitVec.toNat_ofNat]
  omega
theorem table_lt (k : Nat) : Crc.table.getD k 0 < 4294967296 := by
  by_cases h : k < 16
  · have : ∀ k : Fin 16, Crc.table.getD k.val 0 < 4294967296 := by decide
    exact this ⟨k, h⟩
  · rw [List.getD_eq_getElem?_getD, List.getElem?_eq_none (by simp [Crc.table]; omega)]; decide
theorem nib_facts (s : BitVec 32) : ∃ (q k t : Nat), (s.toNat : Int) / 16 = q ∧ bits .and .u32 (s.toNat : Int) 15 = k ∧ k < 16 ∧ t = Crc.table.getD k 0 ∧ bits .xor .u32 (q : Int) (t : Int) = ((Crc.nib s).toNat : Int) := by
  have hk : (s &&& 15#32).toNat < 16 := by
    rw [BitVec.toNat_and]
    exact Nat.lt_of_le_of_lt Nat.and_le_right (by decide)
  refine ⟨(s >>> 4).toNat, (s &&& 15#32).toNat, _, ?_, and_u32 s 15#32, hk, rfl, ?_⟩
  · rw [BitVec.toNat_ushiftRight, Nat.shiftRight_eq_div_pow]; omega
  · have e : ((Crc.table.getD (s &&& 15#32).toNat 0 : Nat) : Int) = ((BitVec.ofNat 32 (Crc.table.getD (s &&& 15#32).toNat 0)).toNat : Int) := by
      rw [BitVec.toNat_ofNat, Nat.mod_eq_of_lt (table_lt _)]
    rw [e, xor_u32]; rfl
theorem run_step (l : List UInt8) (k : Nat) (h : k < l.length) (r : BitVec 32) : Crc.run r (l.take (k + 1)) = Crc.byteStep (Crc.run r (l.take k)) l[k] := by
  rw [List.take_succ_eq_append_getElem h, Crc.run_append]; rfl
theorem byteStep_nib (s : BitVec 32) (b : UInt8) : Crc.byteStep s b = Crc.nib (Crc.nib (s ^^^ Crc.ext b)) := by
  rw [Crc.nib_nib]; rfl
theorem max_xor (r : BitVec 32) : bits .xor .u32 IntKind.u32.max (r.toNat : Int) = ((~~~ r).toNat : Int) := by
  have e : (IntKind.u32.max : Int) = ((BitVec.allOnes 32).toNat : Int) := by decide
  rw [e, xor_u32, BitVec.allOnes_xor]
/-- the table's cells -/
def Tab (w : World) : Prop := ∀ k, k < 16 → w.cell? ⟨0, k, none⟩ = some (.int .u32 (Crc.table.getD k 0 : Nat))

set_option maxHeartbeats 400000 in
theorem sum_any {A : Option Addr} {c : Nat} {l : List UInt8} {w : World} (h : Rd w A (l.map byt)) (hl : l.length ≤ 140737488355328) (ht : Tab w) :
    Calls Tryd.prog 48 #[.slice A l.length c] w fun e w' => e = .returned (.int .u32 ((Crc.crc l).toNat : Int)) ∧ w = w' := by
  go_enter Tryd.func48, Tryd.ntmps48
  go_wp2_with fail
  go_loop [3, 8] (fun r i => ∃ k : Nat, k ≤ l.length ∧ i = .int .i64 k ∧ r = .int .u32 ((Crc.run (~~~ 0#32) (l.take k)).toNat : Int)) (fun _ i => l.length - (intOf i).toNat)
  case atStart => exact ⟨0, Nat.zero_le _, rfl, rfl⟩
  case round =>
    obtain ⟨k, hk, rfl, rfl⟩ := hrel
    by_cases hlt : k < l.length
    · obtain ⟨ad, rfl, hc⟩ := h k (byt l[k]) (by simp [hlt])
      have hfin := hid (run_step l k hlt (~~~ 0#32))
      revert hfin
      generalize Crc.run (~~~ 0#32) (l.take k) = s
      generalize hb : l[k] = b at hc
      rw [byteStep_nib]
      have hx := xor_u32 s (Crc.ext b)
      rw [ext_toNat] at hx
      generalize s ^^^ Crc.ext b = s1 at hx ⊢
      obtain ⟨q1, k1, t1, a1, a2, a3, a4, a5⟩ := nib_facts s1
      have c1 := ht k1 a3
      rw [← a4] at c1
      generalize Crc.nib s1 = s2 at a5 ⊢
      obtain ⟨q2, k2, t2, b1, b2, b3, b4, b5⟩ := nib_facts s2
      have c2 := ht k2 b3
      rw [← b4] at c2
      generalize Crc.nib s2 = s3 at b5 ⊢
      intro hfin
      unfold byt at hc
      clear hb a4 b4 ht
      go_wp2_with fail
      go_round
      case rel => exact ⟨k + 1, by omega, by go_num, by rw [hfin.out]⟩
      case measure => simp [intOf]; omega
    · obtain rfl : k = l.length := by omega
      go_wp2_with fail
      go_ret
      have e : bits .xor .u32 IntKind.u32.max ((Crc.run (~~~ 0#32) l).toNat : Int) = ((Crc.crc l).toNat : Int) := max_xor _

      exact ⟨congrArg (fun z => Ending.returned (.int .u32 z)) e, rfl⟩

/-! ### the reference's sum -/
theorem ref_step (s : BitVec 32) : bits .and .u32 (s.toNat : Int) 1 = (if s.getLsbD 0 then 1 else 0 : Int) ∧ ((s.toNat : Int) / (2 : Int) = (((s >>> 1 : BitVec 32)).toNat : Int)) ∧ bits .xor .u32 ((s >>> 1).toNat : Int) 2197175160 = ((s >>> 1 ^^^ Crc.poly).toNat : Int) := by
  refine ⟨?_, ?_, xor_u32 (s >>> 1) Crc.poly⟩
  · have := and_u32 s 1#32
    rw [show ((1#32 : BitVec 32).toNat : Int) = 1 by decide] at this
    rw [this]
    have e : s &&& 1#32 = (if s.getLsbD 0 then 1#32 else 0#32) := by
      apply BitVec.eq_of_getLsbD_eq
      intro i hi
      rw [BitVec.getLsbD_and]
      cases i with
      | zero => cases s.getLsbD 0 <;> simp
      | succ i =>
        have h1 : (1#32 : BitVec 32).getLsbD (i + 1) = false := by simp [BitVec.getLsbD_one]
        cases s.getLsbD 0 <;> simp [h1]
    rw [e]
    cases s.getLsbD 0 <;> decide
  · rw [BitVec.toNat_ushiftRight, Nat.shiftRight_eq_div_pow]; omega
theorem bsteps_succ (n : Nat) (s : BitVec 32) : Crc.bsteps (n + 1) s = Crc.bstep (Crc.bsteps n s) := by
  rw [Crc.bsteps_add]; rfl
set_option maxHeartbeats 800000 in
theorem rsum_any {A : Option Addr} {c : Nat} {l : List UInt8} {w : World} (h : Rd w A (l.map byt)) (hl : l.length ≤ 140737488355328) :
    Calls Tryd.prog 50 #[.slice A l.length c] w fun e w' => e = .returned (.int .u32 ((Crc.crc l).toNat : Int)) ∧ w = w' := by
  go_enter Tryd.func50, Tryd.ntmps50
  go_wp2_with fail
  go_loop [3, 4] (fun r i => ∃ k : Nat, k ≤ l.length ∧ i = .int .i64 k ∧ r = .int .u32 ((Crc.run (~~~ 0#32) (l.take k)).toNat : Int)) (fun _ i => l.length - (intOf i).toNat)
  case atStart => exact ⟨0, Nat.zero_le _, rfl, rfl⟩
  case round =>
    obtain ⟨k, hk, rfl, rfl⟩ := hrel
    by_cases hlt : k < l.length
    · obtain ⟨ad, rfl, hc⟩ := h k (byt l[k]) (by simp [hlt])
      have hfin := hid (run_step l k hlt (~~~ 0#32))
      revert hfin
      generalize Crc.run (~~~ 0#32) (l.take k) = s
      generalize hb : l[k] = b at hc
      unfold Crc.byteStep
      have hx := xor_u32 s (Crc.ext b)
      rw [ext_toNat] at hx
      generalize s ^^^ Crc.ext b = s1 at hx ⊢
      intro hfin
      unfold byt at hc
      clear hb
      go_wp2_with fail
      go_loop [3, 5] (fun r j => ∃ m : Nat, m ≤ 8 ∧ j = .int .i64 m ∧ r = .int .u32 ((Crc.bsteps m s1).toNat : Int)) (fun _ j => 8 - (intOf j).toNat)
      case atStart => exact ⟨0, by omega, rfl, rfl⟩
      case round =>
        obtain ⟨m, hm, rfl, rfl⟩ := hrel
        by_cases hm8 : m < 8
        · have hs := hid (bsteps_succ m s1)
          revert hs
          unfold Crc.bstep
          generalize Crc.bsteps m s1 = t
          obtain ⟨a1, a2, a3⟩ := ref_step t
          generalize t >>> 1 = t1 at a2 a3 ⊢
          cases ht : t.getLsbD 0
          · rw [ht] at a1
            rw [if_neg (by decide)] at a1
            rw [if_neg (by decide), BitVec.xor_zero]
            intro hs
            clear ht a3
            go_wp2_with fail
            go_round
            case rel => exact ⟨m + 1, by omega, by go_num, by rw [hs.out]⟩
            case measure => simp [intOf]; omega
          · rw [ht] at a1
            rw [if_pos rfl] at a1
            rw [if_pos rfl]
            generalize t1 ^^^ Crc.poly = t2 at a3 ⊢
            intro hs
            clear ht
            go_wp2_with fail
            go_round
            case rel => exact ⟨m + 1, by omega, by go_num, by rw [hs.out]⟩
            case measure => simp [intOf]; omega
        · obtain rfl : m = 8 := by omega
          go_wp2_with fail
          go_round
          case rel => exact ⟨k + 1, by omega, by go_num, by rw [hfin.out]⟩
          case measure => simp [intOf]; omega
    · obtain rfl : k = l.length := by omega
      go_wp2_with fail
      go_ret
      have e : bits .xor .u32 IntKind.u32.max ((Crc.run (~~~ 0#32) l).toNat : Int) = ((Crc.crc l).toNat : Int) := max_xor _

      exact ⟨congrArg (fun z => Ending.returned (.int .u32 z)) e, rfl⟩
end Go.Proofs.YtgkdnhbhmebmeaaDoor
