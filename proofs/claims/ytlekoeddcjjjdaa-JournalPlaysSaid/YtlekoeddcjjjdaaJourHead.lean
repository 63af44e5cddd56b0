import Derived.Test.YtlekoeddcjjjdaaJourE
import Derived.Test.YtlekoeddcjjjdaaStoreHead
namespace Go.Proofs.Ytlekoeddcjjjdaa
open Go.RowKit Go.Cov Go.Lib
theorem jh1 : putR [] [97] [49] = ([([97], [49])], 0) := by decide +kernel
abbrev k65 : List UInt8 := List.replicate 65 0
theorem mk65 (w : World) : (Instr.makeSlice 30 (.int .i64 65) (.int .i64 65)).run Try.prog w = .ok (.slice (some ⟨w.heap.size, 0, none⟩) 65 65) (w.alloc (.cells (k65.map byt).toArray 5)) := by kernel_rfl
theorem rd65 (w : World) : Rd (w.alloc (.cells (k65.map byt).toArray 5)) (some ⟨w.heap.size, 0, none⟩) (k65.map byt) := by
  have := rd_box w (k65.map byt).toArray 5
  rwa [List.toList_toArray] at this
theorem st65 {w : World} {A : Option Addr} (t : TypeId) (h : Rd w A (k65.map byt)) : St (w.alloc (.cells #[.slice A 65 65, .slice none 0 0] t)) (some ⟨w.heap.size, 0, none⟩) 1 [⟨A, 65, k65, none, 0, []⟩] [(k65, [])] := by
  have hb := below_alloc w (.cells #[.slice A 65 65, .slice none 0 0] t)
  refine ⟨⟨rd_box w #[.slice A 65 65, .slice none 0 0] t, fun a ha p hp => ?_⟩, Nat.le_refl 1, rfl⟩
  rw [List.mem_singleton.1 ha] at hp
  rcases List.mem_cons.1 hp with rfl | hp
  · exact ⟨A, 65, rfl, Nat.le_refl 65, by decide, h.below hb⟩
  · rw [List.mem_singleton.1 hp]
    exact ⟨none, 0, rfl, Nat.le_refl 0, by decide, Rd.nil _ _⟩
set_option maxRecDepth 100000 in
set_option maxHeartbeats 3200000 in
theorem jhead_any (w : World) : Calls Try.prog 8 #[] w fun e w' => e = .returned (.bool true) ∧ Below w.heap.size w w' := by
  have kc := fun (w : World) (C : Array Value) (n c : Nat) => Lib.run_convert_bytes_const (P := Try.prog) w 30 5 C n c Try.underlying30 Try.underlying5
  have kc2 := lit2 Try.prog 30 5 Try.underlying30 Try.underlying5
  have mk := mk65
  have rm := rd65
  have sm := fun (w : World) (B : Option Addr) t (h : Rd (w.alloc (.cells (k65.map byt).toArray 5)) B (k65.map byt)) => st65 t h
  generalize (k65.map byt).toArray = C65 at mk rm sm
  go_enter Try.func8, Try.ntmps8
  go_wp2_with fail
  refine (jnew_ok (xs := []) (A := none) (c := 0) (L := []) ⟨Els.nil _ _ _, Nat.le_refl 0, rfl⟩ (by decide) (by decide +kernel)).mono ?_
  rintro e w1 ⟨jb, rfl, hj1, hb1⟩
  go_wp2_with fail
  have s2 := sm w1 _ 47 (rm w1)
  have c2 := below_alloc w1 (.cells C65 5)
  have n2 : (w1.alloc (.cells C65 5)).heap.size = w1.heap.size + 1 := size_run
  generalize (w1.alloc (.cells C65 5)) = w2 at s2 c2 n2 ⊢
  have c3 := below_alloc w2 (.cells #[.slice (some ⟨w1.heap.size, 0, none⟩) 65 65, .slice none 0 0] 47)
  generalize (w2.alloc (.cells #[.slice (some ⟨w1.heap.size, 0, none⟩) 65 65, .slice none 0 0] 47)) = w3 at s2 c3 ⊢
  rw [n2] at s2
  refine (jnew_no s2 (by simp) (by decide +kernel)).mono ?_
  rintro e w4 ⟨rfl, hb4⟩
  have d4 := below_step (below_step c2 c3) hb4
  have b4 := below_step hb1 d4
  have hj4 := hj1.below d4
  clear s2 c2 c3 n2 hb4 hj1 d4 mk rm sm
  have hw : w.heap.size ≤ w4.heap.size := b4.size
  go_wp2_with fail
  have e1 := below_alloc w4 (.cells #[.int .u8 97] 5 (1, 2))
  have r1 : Rd (w4.alloc (.cells #[.int .u8 97] 5 (1, 2))) (some ⟨w4.heap.size, 0, none⟩) (([97] : List UInt8).map byt) := rd_boxf w4 #[.int .u8 97] 5 (1, 2)
  have m1 : (w4.alloc (.cells #[.int .u8 97] 5 (1, 2))).heap.size = w4.heap.size + 1 := size_run
  generalize (w4.alloc (.cells #[.int .u8 97] 5 (1, 2))) = w5 at e1 r1 m1 ⊢
  have e2 := below_alloc w5 (.cells #[.int .u8 49] 5 (1, 2))
  have r2 : Rd (w5.alloc (.cells #[.int .u8 49] 5 (1, 2))) (some ⟨w5.heap.size, 0, none⟩) (([49] : List UInt8).map byt) := rd_boxf w5 #[.int .u8 49] 5 (1, 2)
  rw [m1] at r2
  generalize (w5.alloc (.cells #[.int .u8 49] 5 (1, 2))) = w6 at e2 r2 ⊢
  have e6 := below_step e1 e2
  have b6 := below_step b4 e6
  have KP := jputt_any (d := 1) (f := 1) (m := [97]) (v := [49]) (hj4.below e6) (okay_iff.1 (by decide +kernel)) (by simp) (r1.below e2) r2
  unfold jput at KP
  rw [jh1] at KP
  dsimp only at KP
  rw [if_pos rfl] at KP
  refine KP.mono ?_
  rintro e w7 ⟨rfl, hj7, hb7⟩
  have b7 := b6.trans hb7
  clear r1 r2 e1 e2 e6 m1 KP hb7 b6 hj4
  go_wp2_with fail
  refine (jmark_any hj7).mono ?_
  rintro e w8 ⟨rfl, rfl⟩
  go_wp2_with fail
  have e1 := below_alloc w8 (.cells #[.int .u8 97] 5 (1, 2))
  have r1 : Rd (w8.alloc (.cells #[.int .u8 97] 5 (1, 2))) (some ⟨w8.heap.size, 0, none⟩) (([97] : List UInt8).map byt) := rd_boxf w8 #[.int .u8 97] 5 (1, 2)
  generalize (w8.alloc (.cells #[.int .u8 97] 5 (1, 2))) = w9 at e1 r1 ⊢
  refine (jdel_any (d := 1) (m := [97]) (hj7.below e1) (okay_iff.1 (by decide +kernel)) (by simp) r1).mono ?_
  rintro e w10 ⟨⟨v10, rfl⟩, hj10, hb10⟩
  have b10 := (below_step b7 e1).trans hb10
  clear r1 e1 hj7 hb10
  go_wp2_with fail
  refine (jundo_ok hj10 (by simp) 1 (by simp)).mono ?_
  rintro e w11 ⟨rfl, hj11, hb11⟩
  have b11 := b10.trans hb11
  clear hj10 hb11
  go_wp2_with fail
  have e1 := below_alloc w11 (.cells #[.int .u8 97] 5 (1, 2))
  have r1 : Rd (w11.alloc (.cells #[.int .u8 97] 5 (1, 2))) (some ⟨w11.heap.size, 0, none⟩) (([97] : List UInt8).map byt) := rd_boxf w11 #[.int .u8 97] 5 (1, 2)
  generalize (w11.alloc (.cells #[.int .u8 97] 5 (1, 2))) = w12 at e1 r1 ⊢
  have b12 := below_step b11 e1
  have hj12 : Jn w12 w.heap.size jb [[]] [([97], [49])] := hj11.below e1
  refine (jget_any (d := 1) (m := [97]) hj12 (okay_iff.1 (by decide +kernel)) r1).mono ?_
  rw [show getP [([97], [49])] [97] = some [49] by decide +kernel]
  rintro e w13 ⟨D, k, r, rfl, hr, hrd, hb13⟩
  obtain rfl : r = [49] := hr.symm
  have b13 := below_step b12 hb13
  have hj13 := hj12.below hb13
  have cv2 : (convert 30 9 (.slice D 1 k)).run Try.prog w13 = .ok (.string ⟨#[49]⟩) w13 := conv_bs (P := Try.prog) Try.underlying30 Try.underlying5 Try.underlying9 (l := [49]) hrd k
  clear r1 hr
  go_wp2_with fail
  refine (jpairs_any hj13 (okay_iff.1 (by decide +kernel))).mono ?_
  rintro e w14 ⟨C, q, ys, rfl, hs, hb14⟩
  have hl := hs.len
  rw [show ([([97], [49])] : PL).length = 1 from rfl] at hl
  rw [hl]
  go_wp2_with fail
  go_ret
  exact ⟨rfl, below_step b13 hb14⟩
end Go.Proofs.Ytlekoeddcjjjdaa
