import Derived.Test.YtoceipdkmafagaaOpC
import Derived.Test.YtoceipdkmafagaaOpE
import Derived.Test.YtoceipdkmafagaaOpJ
/-! the ref's op: alike -/
namespace Go.Proofs.Ytoceipdkmafagaa
open Go.RowKit Go.Cov
theorem cv (w : World) {A : Option Addr} {l : List UInt8} (h : Rd w A (l.map byt)) (cap : Nat) : (convert 22 9 (.slice A l.length cap)).run Try.prog w = .ok (.string (str l)) w := conv_bs Try.underlying22 Try.underlying5 Try.underlying9 h cap
set_option maxHeartbeats 1600000 in
theorem samev_any (x y : En) {w : World} (hx : Rd w x.A (x.op.map byt)) (hy : Rd w y.A (y.op.map byt)) :
    Calls Try.prog 43 #[.agg #[.int .i64 x.c, .int .i64 x.r, .slice x.A x.op.length x.cap], .agg #[.int .i64 y.c, .int .i64 y.r, .slice y.A y.op.length y.cap]] w fun e w' => e = .returned (.bool (decide (x.data = y.data))) ∧ Below w.heap.size w w' := by
  have hb := below_step (below_alloc w (.cells #[.int .i64 x.c, .int .i64 x.r, .slice x.A x.op.length x.cap] 29)) (below_alloc (w.alloc (.cells #[.int .i64 x.c, .int .i64 x.r, .slice x.A x.op.length x.cap] 29)) (.cells #[.int .i64 y.c, .int .i64 y.r, .slice y.A y.op.length y.cap] 29))
  have c1 := cv _ (hx.below hb) x.cap
  have c2 := cv _ (hy.below hb) y.cap
  have hd : (decide (x.data = y.data)) = (decide (x.c = y.c) && decide (x.r = y.r) && decide (x.op = y.op)) := by
    unfold En.data
    by_cases h1 : x.c = y.c <;> by_cases h2 : x.r = y.r <;> by_cases h3 : x.op = y.op <;> simp [h1, h2, h3]
  rw [hd]
  clear hd
  have s1 := str_beq x.op y.op
  by_cases h1 : x.c = y.c
  · have j1 : (x.c == y.c) = true := by simp [h1]
    by_cases h2 : x.r = y.r
    · have j2 : (x.r == y.r) = true := by simp [h2]
      rw [decide_eq_true h1, decide_eq_true h2]
      clear h1 h2
      generalize hs1 : str x.op = t1 at c1 s1
      generalize hs2 : str y.op = t2 at c2 s1
      clear hs1 hs2
      go_enter Try.func43, Try.ntmps43
      go_wp2_with fail
      go_ret
      exact ⟨rfl, hb⟩
    · have j2 : (x.r == y.r) = false := by simp [h2]
      rw [decide_eq_true h1, decide_eq_false h2]
      clear h1 h2 c1 c2 s1
      go_enter Try.func43, Try.ntmps43
      go_wp2_with fail
      go_ret
      exact ⟨rfl, hb⟩
  · have j1 : (x.c == y.c) = false := by simp [h1]
    rw [decide_eq_false h1]
    clear h1 c1 c2 s1
    go_enter Try.func43, Try.ntmps43
    go_wp2_with fail
    go_ret
    exact ⟨rfl, hb⟩
/-- an outcome: its value, trap, gas -/
def outV (x : En) (tr us : Int) : Value := .agg #[.int .i64 x.c, .int .i64 x.r, .slice x.A x.op.length x.cap, .int .i64 tr, .int .i64 us]
set_option maxRecDepth 100000 in
set_option maxHeartbeats 3200000 in
theorem out_same (x y : En) (tr us tr2 us2 : Int) {w : World} (hx : Rd w x.A (x.op.map byt)) (hy : Rd w y.A (y.op.map byt)) :
    Calls Try.prog 50 #[outV x tr us, outV y tr2 us2] w fun e w' => e = .returned (.bool (decide (x.data = y.data) && decide (tr = tr2) && decide (us = us2))) ∧ Below w.heap.size w w' := by
  have b1 := below_alloc w (.cells #[.int .i64 x.c, .int .i64 x.r, .slice x.A x.op.length x.cap, .int .i64 tr, .int .i64 us] 32)
  have R1 := Row.new w [.int .i64 x.c, .int .i64 x.r, .slice x.A x.op.length x.cap, .int .i64 tr, .int .i64 us] 32
  unfold outV
  go_enter Try.func50, Try.ntmps50
  obtain ⟨w1, hw1⟩ : ∃ w1, w1 = w.alloc (.cells #[.int .i64 x.c, .int .i64 x.r, .slice x.A x.op.length x.cap, .int .i64 tr, .int .i64 us] 32) := ⟨_, rfl⟩
  have n1 : w1.heap.size = w.heap.size + 1 := by rw [hw1]; simp
  have b1 : Below w.heap.size w w1 := by rw [hw1]; exact b1
  have R1 : Row w1 w.heap.size [.int .i64 x.c, .int .i64 x.r, .slice x.A x.op.length x.cap, .int .i64 tr, .int .i64 us] := by rw [hw1]; exact R1
  have b2 := below_alloc w1 (.cells #[.int .i64 y.c, .int .i64 y.r, .slice y.A y.op.length y.cap, .int .i64 tr2, .int .i64 us2] 32)
  have R2 := Row.new w1 [.int .i64 y.c, .int .i64 y.r, .slice y.A y.op.length y.cap, .int .i64 tr2, .int .i64 us2] 32
  have R1 := R1.below b2
  rw [n1] at R2
  go_upto_region 1 with fail
  rw [← hw1]
  clear hw1
  generalize w1.alloc _ = w2 at b2 R1 R2 ⊢
  have b02 := below_step b1 b2
  have C0 := (R1.2 0 _ rfl).1
  have C1 := (R1.2 1 _ rfl).1
  have C2 := (R1.2 2 _ rfl).1
  have C3 := (R1.2 3 _ rfl).1
  have C4 := (R1.2 4 _ rfl).1
  have D0 := (R2.2 0 _ rfl).1
  have D1 := (R2.2 1 _ rfl).1
  have D2 := (R2.2 2 _ rfl).1
  have D3 := (R2.2 3 _ rfl).1
  have D4 := (R2.2 4 _ rfl).1
  clear R1 R2
  go_wp2_with fail
  refine (samev_any x y (hx.below b02) (hy.below b02)).mono ?_
  rintro e w3 ⟨rfl, hb3⟩
  have C3 := cell_on hb3 C3
  have C4 := cell_on hb3 C4
  have D3 := cell_on hb3 D3
  have D4 := cell_on hb3 D4
  have b03 := below_step b02 hb3
  clear C0 C1 C2 D0 D1 D2
  obtain ⟨dv, hdv⟩ : ∃ dv, Hid (decide (x.data = y.data) = dv) := ⟨_, hid rfl⟩
  rw [hdv.out]
  cases dv
  · go_wp2_with fail
    go_ret
    exact ⟨by rw [hdv.out]; rfl, b03⟩
  by_cases h1 : tr = tr2
  · have j1 : (tr == tr2) = true := by simp [h1]
    have j2 : (us == us2) = decide (us = us2) := rfl
    replace h1 := hid h1
    go_wp2_with fail
    go_ret
    exact ⟨by rw [hdv.out, decide_eq_true h1.out]; simp, b03⟩
  · have j1 : (tr == tr2) = false := by simp [h1]
    replace h1 := hid h1
    go_wp2_with fail
    go_ret
    exact ⟨by rw [hdv.out, decide_eq_false h1.out]; rfl, b03⟩
set_option maxRecDepth 100000 in
set_option maxHeartbeats 3200000 in
theorem samereply_any (r s : Ra) {w : World} (hr : RaRd w r) (hs : RaRd w s) :
    Calls Try.prog 22 #[r.val, s.val] w fun e w' => e = .returned (.bool (sameR r.data s.data)) ∧ Below w.heap.size w w' := by
  have hd : sameR r.data s.data = ((decide (r.v.data = s.v.data) && decide (r.tr = s.tr) && decide (r.us = s.us)) && decide (r.er = s.er) && decide (r.pl = s.pl) && decide (r.fd = s.fd) && decide (r.t = s.t)) := rfl
  replace hd := hid hd
  have b1 := below_alloc w (.cells r.cells.toArray 34)
  have R1 := Row.new w r.cells 34
  unfold Ra.val
  unfold Ra.cells at b1 R1
  go_enter Try.func22, Try.ntmps22
  obtain ⟨w1, hw1⟩ : ∃ w1, w1 = w.alloc (.cells r.cells.toArray 34) := ⟨_, rfl⟩
  unfold Ra.cells at hw1
  have n1 : w1.heap.size = w.heap.size + 1 := by rw [hw1]; simp
  have b1 : Below w.heap.size w w1 := by rw [hw1]; exact b1
  have R1 : Row w1 w.heap.size r.cells := by rw [hw1]; exact R1
  unfold Ra.cells at R1
  have b2 := below_alloc w1 (.cells s.cells.toArray 34)
  have R2 := Row.new w1 s.cells 34
  unfold Ra.cells at b2 R2
  have R1 := R1.below b2
  rw [n1] at R2
  go_upto_region 1 with fail
  rw [← hw1]
  clear hw1
  generalize w1.alloc _ = w2 at b2 R1 R2 ⊢
  have b02 := below_step b1 b2
  have C0 := (R1.2 0 _ rfl).1
  have D0 := (R2.2 0 _ rfl).1
  have C1 := (R1.2 1 _ rfl).1
  have D1 := (R2.2 1 _ rfl).1
  have C2 := (R1.2 2 _ rfl).1
  have D2 := (R2.2 2 _ rfl).1
  have C3 := (R1.2 3 _ rfl).1
  have D3 := (R2.2 3 _ rfl).1
  have C4 := (R1.2 4 _ rfl).1
  have D4 := (R2.2 4 _ rfl).1
  have C5 := (R1.2 5 _ rfl).1
  have D5 := (R2.2 5 _ rfl).1
  have C6 := (R1.2 6 _ rfl).1
  have D6 := (R2.2 6 _ rfl).1
  have C7 := (R1.2 7 _ rfl).1
  have D7 := (R2.2 7 _ rfl).1
  have C8 := (R1.2 8 _ rfl).1
  have D8 := (R2.2 8 _ rfl).1
  clear R1 R2
  go_wp2_with fail
  refine (out_same r.v s.v r.tr r.us s.tr s.us (hr.v.below b02) (hs.v.below b02)).mono ?_
  rintro e w3 ⟨rfl, hb3⟩
  have b03 := below_step b02 hb3
  have C0 := cell_on hb3 C0
  have D0 := cell_on hb3 D0
  have C1 := cell_on hb3 C1
  have D1 := cell_on hb3 D1
  have C7 := cell_on hb3 C7
  have D7 := cell_on hb3 D7
  have C8 := cell_on hb3 C8
  have D8 := cell_on hb3 D8
  clear C2 C3 C4 C5 C6 D2 D3 D4 D5 D6
  have c1 := cv w3 (hr.t.below b03) r.tc
  have c2 := cv w3 (hs.t.below b03) s.tc
  have s1 := str_beq r.t s.t
  generalize hs1 : str r.t = t1 at c1 s1
  generalize hs2 : str s.t = t2 at c2 s1
  clear hs1 hs2
  obtain ⟨same, hsm⟩ : ∃ same, Hid ((decide (r.v.data = s.v.data) && decide (r.tr = s.tr) && decide (r.us = s.us)) = same) := ⟨_, hid rfl⟩
  rw [hsm.out]
  cases same
  · go_wp2_with fail
    go_ret
    exact ⟨by rw [hd.out, hsm.out]; rfl, b03⟩
  by_cases h0 : r.er = s.er
  case neg =>
    have j0 : (r.er == s.er) = false := by simp [h0]
    replace h0 := hid h0
    go_wp2_with fail
    go_ret
    exact ⟨by rw [hd.out, hsm.out, decide_eq_false h0.out]; rfl, b03⟩
  have j0 : (r.er == s.er) = true := by simp [h0]
  replace h0 := hid h0
  by_cases h1 : r.pl = s.pl
  case neg =>
    have j1 : (r.pl == s.pl) = false := by simp [h1]
    replace h1 := hid h1
    go_wp2_with fail
    go_ret
    exact ⟨by rw [hd.out, hsm.out, decide_eq_true h0.out, decide_eq_false h1.out]; rfl, b03⟩
  have j1 : (r.pl == s.pl) = true := by simp [h1]
  replace h1 := hid h1
  by_cases h2 : r.fd = s.fd
  case neg =>
    have j2 : (r.fd == s.fd) = false := by simp [h2]
    replace h2 := hid h2
    go_wp2_with fail
    go_ret
    exact ⟨by rw [hd.out, hsm.out, decide_eq_true h0.out, decide_eq_true h1.out, decide_eq_false h2.out]; rfl, b03⟩
  have j2 : (r.fd == s.fd) = true := by simp [h2]
  replace h2 := hid h2
  go_wp2_with fail
  go_ret
  exact ⟨by rw [hd.out, hsm.out, decide_eq_true h0.out, decide_eq_true h1.out, decide_eq_true h2.out, ← s1]; rfl, b03⟩
end Go.Proofs.Ytoceipdkmafagaa
