import Derived.Test.YtelmndpelgbboaaCliI
namespace Go.Proofs.Ytelmndpelgbboaa
open Go.RowKit Go.Conc Go.Cov Go.Lib
theorem same_e0 (w : World) : Calls Try.prog 33 #[.slice none 0 0, .slice none 0 0] w fun e w' => e = .returned (.bool true) ∧ w' = w := by
  go_enter Try.func33, Try.ntmps33
  go_wp2_with fail
  go_loopw [5] (fun i W => i = .int .i64 0 ∧ W = w) (fun _ _ => 0)
  case atStart => exact ⟨rfl, rfl⟩
  case round =>
    obtain ⟨rfl, rfl⟩ := hrel
    go_wp2_with fail
    go_ret
    exact ⟨rfl, rfl⟩
theorem same_log0 (w : World) : Calls Try.prog 28 #[.agg #[.int .i64 0, .slice none 0 0], .agg #[.int .i64 0, .slice none 0 0]] w fun e w' => e = .returned (.bool true) ∧ Below w.heap.size w w' := by
  have b1 := below_alloc w (.cells #[.int .i64 0, .slice none 0 0] 32)
  have b2 := below_step b1 (below_alloc (w.alloc (.cells #[.int .i64 0, .slice none 0 0] 32)) (.cells #[.int .i64 0, .slice none 0 0] 32))
  go_enter Try.func28, Try.ntmps28
  go_wp2_with fail
  refine (same_e0 _).mono ?_
  rintro e w1 ⟨rfl, rfl⟩
  go_wp2_with fail
  go_ret
  exact ⟨rfl, b2⟩
def Rq.agg (r : Rq) : Value := reqV r.q r.n r.c r.val
set_option maxRecDepth 100000 in
set_option maxHeartbeats 6400000 in
theorem same_rq {w : World} (q n c : Int) {A B : Option Addr} {k m : Nat} {b : List UInt8} (hA : Rd w A (b.map byt)) (hB : Rd w B (b.map byt)) :
    Calls Try.prog 13 #[reqV q n c (.slice A b.length k), reqV q n c (.slice B b.length m)] w fun e w' => e = .returned (.bool true) ∧ Below w.heap.size w w' := by
  have R1 := Row.new w (reqL q n c (.slice A b.length k)) 34
  have b1 := below_alloc w (.cells (reqL q n c (.slice A b.length k)).toArray 34)
  unfold reqV
  go_enter Try.func13, Try.ntmps13
  have R2 := Row.new (w.alloc (.cells (reqL q n c (.slice A b.length k)).toArray 34)) (reqL q n c (.slice B b.length m)) 34
  have ba := below_alloc (w.alloc (.cells (reqL q n c (.slice A b.length k)).toArray 34)) (.cells (reqL q n c (.slice B b.length m)).toArray 34)
  have b2 := below_step b1 ba
  have R1 := R1.below ba
  have n1 : (w.alloc (.cells (reqL q n c (.slice A b.length k)).toArray 34)).heap.size = w.heap.size + 1 := by simp
  rw [n1] at R2
  unfold reqL at R1 R2 b1 ba b2
  go_upto_region 1 with fail
  generalize ((w.alloc _).alloc _) = w2 at R1 R2 b2 ⊢
  have x0 := (R1.2 0 _ rfl).1
  have y0 := (R2.2 0 _ rfl).1
  have x1 := (R1.2 1 _ rfl).1
  have y1 := (R2.2 1 _ rfl).1
  have x2 := (R1.2 2 _ rfl).1
  have y2 := (R2.2 2 _ rfl).1
  have x3 := (R1.2 3 _ rfl).1
  have y3 := (R2.2 3 _ rfl).1
  have x4 := (R1.2 4 _ rfl).1
  have y4 := (R2.2 4 _ rfl).1
  have x5 := (R1.2 5 _ rfl).1
  have y5 := (R2.2 5 _ rfl).1
  have x6 := (R1.2 6 _ rfl).1
  have y6 := (R2.2 6 _ rfl).1
  have x7 := (R1.2 7 _ rfl).1
  have y7 := (R2.2 7 _ rfl).1
  have x8 := (R1.2 8 _ rfl).1
  have y8 := (R2.2 8 _ rfl).1
  have x9 := (R1.2 9 _ rfl).1
  have y9 := (R2.2 9 _ rfl).1
  have x10 := (R1.2 10 _ rfl).1
  have y10 := (R2.2 10 _ rfl).1
  have x11 := (R1.2 11 _ rfl).1
  have y11 := (R2.2 11 _ rfl).1
  have x14 := (R1.2 14 _ rfl).1
  have y14 := (R2.2 14 _ rfl).1
  have x12 := (R1.2 12 _ rfl).1
  have y12 := (R2.2 12 _ rfl).1
  have x13 := (R1.2 13 _ rfl).1
  have y13 := (R2.2 13 _ rfl).1
  have cv1 := conv_bs (P := Try.prog) Try.underlying29 Try.underlying5 Try.underlying9 (hA.below b2) k
  have cv2 := conv_bs (P := Try.prog) Try.underlying29 Try.underlying5 Try.underlying9 (hB.below b2) m
  have KS := hid (same_log0 w2)
  go_wp2_with fail
  refine KS.out.mono ?_
  rintro e w3 ⟨rfl, hb3⟩
  have x14 := cell_on hb3 x14
  have y14 := cell_on hb3 y14
  have cv3 : (convert 29 9 (.slice none 0 0)).run Try.prog w3 = .ok (.string (str [])) w3 := conv_bs (P := Try.prog) Try.underlying29 Try.underlying5 Try.underlying9 (A := none) (l := []) (Rd.nil w3 _) 0
  go_wp2_with fail
  go_ret
  exact ⟨rfl, below_step b2 hb3⟩
end Go.Proofs.Ytelmndpelgbboaa
