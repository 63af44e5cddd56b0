import Derived.Test.YtengfmcfklakbaaDoorSealE
import Derived.Lib.SlBytesConst
namespace Go.Proofs.YtengfmcfklakbaaDoor
open Go.RowKit Go.Cov
theorem rd_boxf (w : World) (cs : Array Value) (t : TypeId) (fr : Nat × Nat) : Rd (w.alloc (.cells cs t fr)) (some ⟨w.heap.size, 0, none⟩) cs.toList := by
  intro j u hj
  refine ⟨_, rfl, ?_⟩
  rw [add_none, cell_of_row (w.alloc (.cells cs t fr)) w.heap.size (0 + j) cs t fr (heap_alloc_new w _)]
  simpa using hj
theorem Tab.below {w w' : World} (h : Tab w) (hb : Below w.heap.size w w') : Tab w' := fun k hk => (hb.cell (cell_lt (h k hk))).trans (h k hk)
theorem below_alloc (w : World) (o : Obj) : Below w.heap.size w (w.alloc o) := (Below.refl _ _).alloc (Nat.le_refl _) o
theorem sum9 : Crc.crc [49, 50, 51, 52, 53, 54, 55, 56, 57] = 0xe3069283#32 := by decide +kernel
theorem open_a : openE (sealed [97]) = 0 ∧ openL (sealed [97]) = [97] := by decide +kernel
theorem open_1 : openE [1, 0, 0, 0] = 21 := by decide +kernel
set_option maxHeartbeats 800000 in
theorem head_any {w : World} (ht : Tab w) : Calls Tryd.prog 9 #[] w fun e w' => e = .returned (.bool true) ∧ Below w.heap.size w w' := by
  have kc := fun (w : World) (C : Array Value) (n c : Nat) => Lib.run_convert_bytes_const (P := Tryd.prog) w 22 5 C n c Tryd.underlying22 Tryd.underlying5
  go_enter Tryd.func9, Tryd.ntmps9
  go_wp2_with fail
  have r1 : Rd (w.alloc (.cells #[.int .u8 97] 5 (1, 2))) (some ⟨w.heap.size, 0, none⟩) (([97] : List UInt8).map byt) := rd_boxf w #[.int .u8 97] 5 (1, 2)
  have b1 := below_alloc w (.cells #[.int .u8 97] 5 (1, 2))
  refine (seal_any (l := [97]) r1 (by simp) (ht.below b1)).mono ?_
  rintro e w2 ⟨v2, rfl, hown2, hb2⟩
  obtain ⟨A2, c2, rfl, hc2, _⟩ := own_shape hown2
  have b2 := b1.trans (hb2.mono b1.size)
  have r2 : Rd w2 A2 ((sealed [97]).map byt) := own_rd hown2
  go_wp2_with fail
  refine (open_any (l := sealed [97]) r2 (by rw [sealed_length]; exact hc2) (by rw [sealed_length]; simp) (ht.below b2)).mono ?_
  rw [open_a.1, open_a.2]
  rintro e w3 ⟨v3, rfl, hown3, hb3⟩
  have b3 := b2.trans (hb3.mono b2.size)
  obtain ⟨A3, c3, rfl, hc3, _⟩ := own_shape hown3
  have r3 : Rd w3 A3 (([97] : List UInt8).map byt) := own_rd hown3
  go_wp2_with fail
  have b4 := b3.trans ((below_alloc w3 (.cells #[.int .u8 1, .int .u8 0, .int .u8 0, .int .u8 0] 5)).mono b3.size)
  refine (open_any (l := [1, 0, 0, 0]) (rd_box w3 #[.int .u8 1, .int .u8 0, .int .u8 0, .int .u8 0] 5) (by simp) (by simp) (ht.below b4)).mono ?_
  rw [open_1]
  rintro e w5 ⟨v5, rfl, hown5, hb5⟩
  have b5 := b4.trans (hb5.mono b4.size)
  have r5 : Rd w5 A3 (([97] : List UInt8).map byt) := (r3.alloc _).below hb5
  go_wp2_with fail
  have r6 := rd_boxf w5 #[.int .u8 49, .int .u8 50, .int .u8 51, .int .u8 52, .int .u8 53, .int .u8 54, .int .u8 55, .int .u8 56, .int .u8 57] 5 (9, 10)
  have b6 := b5.trans ((below_alloc w5 (.cells #[.int .u8 49, .int .u8 50, .int .u8 51, .int .u8 52, .int .u8 53, .int .u8 54, .int .u8 55, .int .u8 56, .int .u8 57] 5 (9, 10))).mono b5.size)
  refine (sum_any (l := [49, 50, 51, 52, 53, 54, 55, 56, 57]) r6 (by simp) (ht.below b6)).mono ?_
  rw [sum9, show ((0xe3069283#32 : BitVec 32).toNat : Int) = 3808858755 from rfl]
  rintro e w7 ⟨rfl, rfl⟩
  have cv : ∀ o, (convert 22 9 (.slice A3 1 c3)).run Tryd.prog (w5.alloc o) = .ok (.string ⟨#[97]⟩) (w5.alloc o) := fun o => conv_bs (P := Tryd.prog) Tryd.underlying22 Tryd.underlying5 Tryd.underlying9 (l := [97]) (r5.alloc o) c3
  go_wp2_with fail
  go_ret
  exact ⟨rfl, b6⟩
end Go.Proofs.YtengfmcfklakbaaDoor
