import Derived.Test.YtoceipdkmafagaaOpK
import Derived.Test.YtoceipdkmafagaaPlain1
/-! op: the reader's value -/
namespace Go.Proofs.Ytoceipdkmafagaa
open Go.RowKit Go.Cov
set_option maxHeartbeats 3200000 in
theorem rvalue_any {w : World} {b c : Nat} {A : Option Addr} {l : List UInt8} {s : Int × Int} (h : Rr w b A c l s) :
    Calls Try.prog 38 #[.pointer (some ⟨b, 0, none⟩)] w fun e w' => ∃ (x : En), e = .returned (.agg #[.int .i64 x.c, .int .i64 x.r, .slice x.A x.op.length x.cap]) ∧ x.data = (getV l s).1 ∧ w'.ownsRow w.heap.size 5 1 (.slice x.A x.op.length x.cap) x.op.length (x.op.map byt) ∧ Rr w' b A c l (getV l s).2 ∧ Gro b b w w' := by
  have hb := h.row.1
  have hlt := h.lt
  have b1 := below_alloc w (.cells #[.int .i64 0, .int .i64 0, .slice none 0 0] 29)
  have R1 := Row.new w [.int .i64 0, .int .i64 0, .slice none 0 0] 29
  go_enter Try.func38, Try.ntmps38
  go_upto_region 1 with fail
  generalize hw1 : w.alloc _ = w1 at b1 R1 ⊢
  have n1 : w1.heap.size = w.heap.size + 1 := by rw [← hw1]; simp
  clear hw1
  have b2 := below_alloc w1 (.cells #[.int .i64 0, .int .i64 0, .slice none 0 0] 29)
  have R2 := Row.new w1 [.int .i64 0, .int .i64 0, .slice none 0 0] 29
  have R1' := R1.below b2
  go_upto_region 2 with fail
  generalize hw2 : w1.alloc _ = w2 at b2 R2 R1' ⊢
  clear hw2
  have b12 := below_step b1 b2
  have h2 := h.below b12
  rw [n1] at R2
  clear R1 b1 b2
  -- the type
  go_wp2_with fail
  refine (nextnum_any h2).mono ?_
  rintro e w3 ⟨rfl, h3, G3⟩
  have Q1 := R1'.gro G3 (by omega)
  have Q2 := R2.gro G3 (by omega)
  clear h2 R1' R2
  obtain ⟨e1, s1, he1⟩ : ∃ e1 s1, nx numR 0 l s = (e1, s1) := ⟨_, _, rfl⟩
  rw [he1] at h3 ⊢
  have C := (Q2.2 0 _ rfl).1
  have F := (Q2.2 0 _ rfl).2
  have S2 := Q2.set 0 (by simp) (.int .i64 e1)
  have S1 := Q1.gro (Gro.set (w.heap.size + 1) (w.heap.size + 1) 0 w3 (.int .i64 e1)) (by omega)
  have h4 := h3.new' (Gro.set (w.heap.size + 1) (w.heap.size + 1) 0 w3 (.int .i64 e1)) (by omega) (fun hl ad ha => by have := hlt hl ad ha; omega)
  have G4 := (Gro.of_below (b := b) (c := b) b12).trans G3
  replace G4 := G4.newset (k := w.heap.size + 1) (by omega) 0 (.int .i64 e1)
  have z4 := G4.size
  go_upto_region 3 with fail
  clear C F Q1 Q2 h3 G3
  generalize World.setCell _ _ _ = w4 at S1 S2 h4 G4 z4 ⊢
  -- the number
  go_wp2_with fail
  refine (nextnum_any h4).mono ?_
  rintro e w5 ⟨rfl, h5, G5⟩
  have Q1 := S1.gro G5 (by omega)
  have Q2 := S2.gro G5 (by omega)
  clear h4 S1 S2
  obtain ⟨e2, s2, he2⟩ : ∃ e2 s2, nx numR 0 l s1 = (e2, s2) := ⟨_, _, rfl⟩
  rw [he2] at h5 ⊢
  simp only [List.set_cons_zero] at Q2
  have C := (Q2.2 1 _ rfl).1
  have F := (Q2.2 1 _ rfl).2
  have S2 := Q2.set 1 (by simp) (.int .i64 e2)
  have S1 := Q1.gro (Gro.set (w.heap.size + 1) (w.heap.size + 1) 1 w5 (.int .i64 e2)) (by omega)
  have h6 := h5.new' (Gro.set (w.heap.size + 1) (w.heap.size + 1) 1 w5 (.int .i64 e2)) (by omega) (fun hl ad ha => by have := hlt hl ad ha; omega)
  have G6 := (G4.trans G5).newset (k := w.heap.size + 1) (by omega) 1 (.int .i64 e2)
  have z6 := G6.size
  go_upto_region 4 with fail
  clear C F Q1 Q2 h5 G5 G4 z4
  generalize World.setCell _ _ _ = w6 at S1 S2 h6 G6 z6 ⊢
  -- the text
  go_wp2_with fail
  refine (nexttext_any h6).mono ?_
  rintro e w7 ⟨v7, rfl, o7, h7, G7⟩
  have Q1 := S1.gro G7 (by omega)
  have Q2 := S2.gro G7 (by omega)
  have zz := S2.1
  clear h6 S1 S2
  obtain ⟨e3, s3, he3⟩ : ∃ e3 s3, nx bytesR [] l s2 = (e3, s3) := ⟨_, _, rfl⟩
  rw [he3] at h7 o7
  simp only [List.set_cons_zero, List.set_cons_succ] at Q2
  have C := (Q2.2 2 _ rfl).1
  have F := (Q2.2 2 _ rfl).2
  obtain ⟨A7, c7, rfl, _⟩ := own_shape o7
  have S2 := Q2.set 2 (by simp) (.slice A7 e3.length c7)
  have S1 := Q1.gro (Gro.set (w.heap.size + 1) (w.heap.size + 1) 2 w7 (.slice A7 e3.length c7)) (by omega)
  have h8 := h7.new' (Gro.set (w.heap.size + 1) (w.heap.size + 1) 2 w7 (.slice A7 e3.length c7)) (by omega) (fun hl ad ha => by have := hlt hl ad ha; omega)
  have G8 := (G6.trans G7).newset (k := w.heap.size + 1) (by omega) 2 (.slice A7 e3.length c7)
  have o8 := (Gro.set (w.heap.size + 1) (w.heap.size + 1) 2 w7 (.slice A7 e3.length c7)).own o7 zz
  go_upto_region 5 with fail
  clear C F Q1 Q2 h7 G7 G6 z6 o7
  generalize World.setCell _ _ _ = w8 at S1 S2 h8 G8 o8 ⊢
  simp only [List.set_cons_zero, List.set_cons_succ] at S2
  have C0 := (S2.2 0 _ rfl).1
  have C1 := (S2.2 1 _ rfl).1
  have C2 := (S2.2 2 _ rfl).1
  have D0 := (S1.2 0 _ rfl).1
  have D1 := (S1.2 1 _ rfl).1
  have D2 := (S1.2 2 _ rfl).1
  have F0 := (S1.2 0 _ rfl).2
  have F1 := (S1.2 1 _ rfl).2
  have F2 := (S1.2 2 _ rfl).2
  go_wp2_with fail
  have T := ((S1.set 0 (by simp) (.int .i64 e1)).set 1 (by simp) (.int .i64 e2)).set 2 (by simp) (.slice A7 e3.length c7)
  have G9 := ((G8.newset (k := w.heap.size) (Nat.le_refl _) 0 (.int .i64 e1)).newset (k := w.heap.size) (Nat.le_refl _) 1 (.int .i64 e2)).newset (k := w.heap.size) (Nat.le_refl _) 2 (.slice A7 e3.length c7)
  have gg := ((Gro.set w.heap.size w.heap.size 0 w8 (.int .i64 e1)).trans (Gro.set w.heap.size w.heap.size 1 _ (.int .i64 e2))).trans (Gro.set w.heap.size w.heap.size 2 _ (.slice A7 e3.length c7))
  have h9 := h8.new' gg (by omega) (fun hl ad ha => hlt hl ad ha)
  have o9 := own_mono (gg.own o8 (by omega)) (show w.heap.size ≤ w6.heap.size by omega)
  simp only [List.set_cons_zero, List.set_cons_succ] at T
  clear D0 D1 D2 F0 F1 F2 C0 C1 C2 gg
  generalize World.setCell _ _ _ = w9 at T G9 h9 o9 ⊢
  refine bodyPost_ret (results_cell1 (k := 2) (t := 29) Try.results38 rfl T Try.underlying29 rfl (by kernel_rfl)) rfl ?_
  have eG : getV l s = ((e1, e2, e3), s3) := by
    have q1 : nx numR 0 l s = (e1, s1) := he1
    have q2 : nx numR 0 l s1 = (e2, s2) := he2
    have q3 : nx bytesR [] l s2 = (e3, s3) := he3
    unfold getV
    simp only [sq, q1, q2, q3]
  rw [eG]
  exact ⟨⟨e1, e2, A7, c7, e3⟩, rfl, rfl, o9, h9, G9⟩
end Go.Proofs.Ytoceipdkmafagaa
