import Derived.Test.YtahehikpbhneeaaWireM
import Derived.Lib.SlBytesConst
namespace Go.Proofs.Ytahehikpbhneeaa
open Go.RowKit Go.Cov
theorem num258 : getR [0, 0, 0, 0, 0, 0, 1, 2] 0 8 = (258, 8, 0) := by decide +kernel
theorem str_ab : ((str (tx [97, 98])).toList == [0, 0, 0, 2, 97, 98]) = true := by rw [toList_str]; decide +kernel
set_option maxHeartbeats 800000 in
theorem head_any (w : World) : Calls Try.prog 10 #[] w fun e w' => e = .returned (.bool true) ∧ Below w.heap.size w w' := by
  have kc := fun (w : World) (C : Array Value) (n c : Nat) => Lib.run_convert_bytes_const (P := Try.prog) w 22 5 C n c Try.underlying22 Try.underlying5
  go_enter Try.func10, Try.ntmps10
  go_wp2_with fail
  have r1 : Rd (w.alloc (.cells #[.int .u8 97, .int .u8 98] 5 (2, 3))) (some ⟨w.heap.size, 0, none⟩) (([97, 98] : List UInt8).map byt) := rd_boxf w #[.int .u8 97, .int .u8 98] 5 (2, 3)
  have b1 := below_alloc w (.cells #[.int .u8 97, .int .u8 98] 5 (2, 3))
  refine (putbytes_ok (l := [97, 98]) r1 (by simp)).mono ?_
  rintro e w2 ⟨v2, rfl, hown2, hb2⟩
  obtain ⟨A2, c2, rfl, hc2, _⟩ := own_shape hown2
  have b2 := b1.trans (hb2.mono b1.size)
  have r2 := own_rd hown2
  go_wp2_with fail
  have b3 := below_alloc w2 (.cells #[.int .u8 0, .int .u8 0, .int .u8 0, .int .u8 0, .int .u8 0, .int .u8 0, .int .u8 1, .int .u8 2] 5)
  have r3 := rd_box w2 #[.int .u8 0, .int .u8 0, .int .u8 0, .int .u8 0, .int .u8 0, .int .u8 0, .int .u8 1, .int .u8 2] 5
  refine (num_any (l := [0, 0, 0, 0, 0, 0, 1, 2]) r3 (by simp) (by simp) 0).mono ?_
  rw [num258]
  rintro e w3 ⟨rfl, rfl⟩
  have cv := conv_bs (P := Try.prog) Try.underlying22 Try.underlying5 Try.underlying9 (r2.below b3) c2
  have hq := str_ab
  generalize str (tx [97, 98]) = s1 at cv hq
  go_wp2_with fail
  refine (putbool_any true _).mono ?_
  rintro e w4 ⟨v4, rfl, hown4, hb4⟩
  obtain ⟨A4, c4, rfl, hc4, _⟩ := own_shape hown4
  have cv4 : (convert 22 9 (.slice A4 1 c4)).run Try.prog w4 = .ok (.string ⟨#[1]⟩) w4 := conv_bs (P := Try.prog) Try.underlying22 Try.underlying5 Try.underlying9 (l := [1]) (own_rd hown4) c4
  go_wp2_with fail
  go_ret
  exact ⟨rfl, (b2.trans (b3.mono b2.size)).trans (hb4.mono (by have := b2.size; have := b3.size; omega))⟩
end Go.Proofs.Ytahehikpbhneeaa
