import Derived.Test.YtkmeoobbjdbhjaaStoreK
import Derived.Lib.SlBytesConst
namespace Go.Proofs.Ytkmeoobbjdbhjaa
open Go.RowKit Go.Cov Go.Lib
theorem put_h1 : putR [] [98] [50] = ([([98], [50])], 0) := by decide +kernel
theorem put_h2 : putR [([98], [50])] [97] [49] = ([([97], [49]), ([98], [50])], 0) := by decide +kernel
theorem two_pairs {xs : List Pr} {a b : List UInt8 × List UInt8} (h : xs.map Pr.data = [a, b]) : ∃ x y, xs = [x, y] ∧ x.data = a ∧ y.data = b := by
  match xs, h with
  | [x, y], h => exact ⟨x, y, rfl, by injection h, by injection h with _ h; injection h⟩
theorem size_run {w : World} {o : Obj} : (w.alloc o).heap.size = w.heap.size + 1 := Array.size_push ..
theorem els_len {xs : List Pr} {L : PL} (h : xs.map Pr.data = L) : xs.length = L.length := by rw [← h, List.length_map]
theorem fit_els {xs : List Pr} (h : Fit (xs.map Pr.data)) : ∀ x ∈ xs, x.v.length ≤ 140737488351236 := fun x hx => by
  have : (Pr.data x).2.length ≤ 256 := (h x.data (List.mem_map_of_mem hx)).2
  show (Pr.data x).2.length ≤ _
  omega
theorem lit2 (P : Program) (t e : TypeId) (ht : P.underlying t = some (.slice e)) (he : P.underlying e = some (.int .u8)) (w : World) (o : Obj) (C : Array Value) (n c : Nat) : (convert t t (.slice (some ⟨w.heap.size + 1, 0, none⟩) n c)).run P ((w.alloc o).alloc (.cells C e)) = .ok (.slice (some ⟨w.heap.size + 1, 0, none⟩) n c) ((w.alloc o).alloc (.cells C e (C.size, C.size + 1))) := by
  have := Lib.run_convert_bytes_const (P := P) (w.alloc o) t e C n c ht he
  rwa [size_run] at this
set_option maxRecDepth 100000 in
set_option maxHeartbeats 3200000 in
theorem head_any (w : World) : Calls Try.prog 8 #[] w fun e w' => e = .returned (.bool true) ∧ Below w.heap.size w w' := by
  have kc := fun (w : World) (C : Array Value) (n c : Nat) => Lib.run_convert_bytes_const (P := Try.prog) w 23 5 C n c Try.underlying23 Try.underlying5
  have kc2 := lit2 Try.prog 23 5 Try.underlying23 Try.underlying5
  go_enter Try.func8, Try.ntmps8
  go_wp2_with fail
  have b1 := below_alloc w (.cells #[.int .u8 98] 5 (1, 2))
  have r1 : Rd (w.alloc (.cells #[.int .u8 98] 5 (1, 2))) (some ⟨w.heap.size, 0, none⟩) (([98] : List UInt8).map byt) := rd_boxf w #[.int .u8 98] 5 (1, 2)
  have s1 : (w.alloc (.cells #[.int .u8 98] 5 (1, 2))).heap.size = w.heap.size + 1 := size_run
  generalize (w.alloc (.cells #[.int .u8 98] 5 (1, 2))) = w1 at b1 r1 s1 ⊢
  have b2 := below_alloc w1 (.cells #[.int .u8 50] 5 (1, 2))
  have r2 : Rd (w1.alloc (.cells #[.int .u8 50] 5 (1, 2))) (some ⟨w1.heap.size, 0, none⟩) (([50] : List UInt8).map byt) := rd_boxf w1 #[.int .u8 50] 5 (1, 2)
  rw [s1] at r2
  generalize (w1.alloc (.cells #[.int .u8 50] 5 (1, 2))) = w2 at b2 r2 ⊢
  have bb2 := below_step b1 b2
  refine (put_any (xs := []) (m := [98]) (v := [50]) (Els.nil _ _ _) (Nat.le_refl 0) (by decide) (r1.below b2) (by decide) r2 (by decide)).mono ?_
  rw [show ([] : List Pr).map Pr.data = [] from rfl, put_h1]
  rintro e w3 ⟨v3, ys, rfl, hy, ho3, _, hb3⟩
  have bb3 := below_step bb2 hb3
  clear r1 r2 b1 b2 s1
  obtain ⟨A3, c3, rfl, hc3, _, he3⟩ := ho3.rd
  have HY := hid hy
  clear hy ho3
  go_wp2_with fail
  have b1 := below_alloc w3 (.cells #[.int .u8 97] 5 (1, 2))
  have r1 : Rd (w3.alloc (.cells #[.int .u8 97] 5 (1, 2))) (some ⟨w3.heap.size, 0, none⟩) (([97] : List UInt8).map byt) := rd_boxf w3 #[.int .u8 97] 5 (1, 2)
  have s1 : (w3.alloc (.cells #[.int .u8 97] 5 (1, 2))).heap.size = w3.heap.size + 1 := size_run
  generalize (w3.alloc (.cells #[.int .u8 97] 5 (1, 2))) = w4 at b1 r1 s1 ⊢
  have b2 := below_alloc w4 (.cells #[.int .u8 49] 5 (1, 2))
  have r2 : Rd (w4.alloc (.cells #[.int .u8 49] 5 (1, 2))) (some ⟨w4.heap.size, 0, none⟩) (([49] : List UInt8).map byt) := rd_boxf w4 #[.int .u8 49] 5 (1, 2)
  rw [s1] at r2
  generalize (w4.alloc (.cells #[.int .u8 49] 5 (1, 2))) = w5 at b2 r2 ⊢
  have bb5 := below_step b1 b2
  have hs3 : sizeP (ys.map Pr.data) ≤ 140737488000 := by rw [HY.out]; decide
  have hp2 : putR (ys.map Pr.data) [97] [49] = ([([97], [49]), ([98], [50])], 0) := by rw [HY.out, put_h2]
  have KP := put_any (d := 1) (f := 1) (m := [97]) (v := [49]) (he3.below bb5) hc3 hs3 (r1.below b2) (by decide) r2 (by decide)
  rw [hp2] at KP
  refine KP.mono ?_
  rintro e w6 ⟨v6, zs, rfl, hz, ho6, _, hb6⟩
  have bb6 := below_step bb3 (below_step bb5 hb6)
  clear r1 r2 b1 b2 s1 bb5 hb6 hb3 bb2 he3 hc3 hs3 hp2
  obtain ⟨A6, c6, rfl, hc6, _, he6⟩ := ho6.rd
  obtain ⟨x, y, rfl, hx, hy⟩ := two_pairs hz
  clear ho6
  go_wp2_with fail
  have b1 := below_alloc w6 (.cells #[.int .u8 98] 5 (1, 2))
  have r1 : Rd (w6.alloc (.cells #[.int .u8 98] 5 (1, 2))) (some ⟨w6.heap.size, 0, none⟩) (([98] : List UInt8).map byt) := rd_boxf w6 #[.int .u8 98] 5 (1, 2)
  generalize (w6.alloc (.cells #[.int .u8 98] 5 (1, 2))) = w7 at b1 r1 ⊢
  have HZ := hid hz
  refine (get_any (c := c6) (m := [98]) (he6.below b1) (by simp) (fit_els (by rw [hz]; unfold Fit; decide)) r1).mono ?_
  rw [hz, show getP [([97], [49]), ([98], [50])] [98] = some [50] by decide +kernel]
  rintro e w8 ⟨D, k, r, rfl, hr, ho8, hb8⟩
  obtain rfl : r = [50] := hr.symm
  have bb8 := below_step b1 hb8
  have he8 := he6.below bb8
  obtain ⟨ad, rfl, g1, _, g2, _⟩ := pr_at he8 0 (by simp)
  have hxk : x.k = [97] := congrArg Prod.fst hx
  unfold Pr.key at g1
  rw [Nat.zero_mul, add_zero'] at g1
  rw [show ([x, y] : List Pr)[0] = x from rfl] at g1 g2
  rw [hxk] at g1 g2
  have cv1 : (convert 23 9 (.slice x.kA 1 x.kc)).run Try.prog w8 = .ok (.string ⟨#[97]⟩) w8 := conv_bs (P := Try.prog) Try.underlying23 Try.underlying5 Try.underlying9 (l := [97]) g2 x.kc
  have cv2 : (convert 23 9 (.slice D 1 k)).run Try.prog w8 = .ok (.string ⟨#[50]⟩) w8 := conv_bs (P := Try.prog) Try.underlying23 Try.underlying5 Try.underlying9 (l := [50]) (own_rd ho8) k
  have KS := hid (size_pairs (c := c6) he8 (by rw [hz]; decide))
  rw [hz, show sizeP [([97], [49]), ([98], [50])] = 20 by decide +kernel] at KS
  clear hz
  go_wp2_with fail
  refine KS.out.mono ?_
  rintro e w9 ⟨rfl, hb9⟩
  have KR := hid (right_pairs (c := c6) (he8.below hb9) (by simp))
  rw [HZ.out, show rightP [([97], [49]), ([98], [50])] = true by decide +kernel] at KR
  go_wp2_with fail
  refine KR.out.mono ?_
  rintro e w10 ⟨rfl, hb10⟩
  go_wp2_with fail
  go_ret
  exact ⟨rfl, below_step (below_step (below_step bb6 bb8) hb9) hb10⟩
end Go.Proofs.Ytkmeoobbjdbhjaa
