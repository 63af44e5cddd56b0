import Derived.Test.YtoceipdkmafagaaOpT
import Derived.Test.YtoceipdkmafagaaPlain1
/-! the ref's op: reading's value -/
namespace Go.Proofs.Ytoceipdkmafagaa
open Go.RowKit Go.Cov
set_option maxHeartbeats 3200000 in
theorem rdvalue_any {w : World} {b c : Nat} {A : Option Addr} {l : List UInt8} {s : Int × Int} (h : Rr w b A c l s) :
    Calls Try.prog 42 #[.pointer (some ⟨b, 0, none⟩)] w fun e w' => ∃ (x : En), e = .returned (.agg #[.int .i64 x.c, .int .i64 x.r, .slice x.A x.op.length x.cap]) ∧ x.data = (getV l s).1 ∧ w'.ownsRow w.heap.size 5 1 (.slice x.A x.op.length x.cap) x.op.length (x.op.map byt) ∧ Rr w' b A c l (getV l s).2 ∧ Gro b b w w' := by
  have hb := h.row.1
  have hlt := h.lt
  have b1 := below_alloc w (.cells #[.int .i64 0, .int .i64 0, .slice none 0 0] 29)
  have R1 := Row.new w [.int .i64 0, .int .i64 0, .slice none 0 0] 29
  go_enter Try.func42, Try.ntmps42
  go_upto_region 1 with fail
  generalize hw1 : w.alloc _ = w1 at b1 R1 ⊢
  have n1 : w1.heap.size = w.heap.size + 1 := by rw [← hw1]; simp
  clear hw1
  have h1 := h.below b1
  go_wp2_with fail
  refine (rdnum_any h1).mono ?_
  rintro e w3 ⟨rfl, h3, G3⟩
  have Q1 := R1.gro G3 (by omega)
  obtain ⟨e1, s1, he1⟩ : ∃ e1 s1, nx numR 0 l s = (e1, s1) := ⟨_, _, rfl⟩
  rw [he1] at h3 ⊢
  go_wp2_with fail
  refine (rdnum_any h3).mono ?_
  rintro e w4 ⟨rfl, h4, G4⟩
  replace Q1 := Q1.gro G4 (by omega)
  obtain ⟨e2, s2, he2⟩ : ∃ e2 s2, nx numR 0 l s1 = (e2, s2) := ⟨_, _, rfl⟩
  rw [he2] at h4 ⊢
  go_wp2_with fail
  refine (rdtext_any h4).mono ?_
  rintro e w7 ⟨v7, rfl, o7, h7, G7⟩
  replace Q1 := Q1.gro G7 (by omega)
  have z4 := h4.row.1
  have z7 := (G3.trans G4).size
  obtain ⟨e3, s3, he3⟩ : ∃ e3 s3, nx bytesR [] l s2 = (e3, s3) := ⟨_, _, rfl⟩
  rw [he3] at h7 o7
  obtain ⟨A7, c7, rfl, _⟩ := own_shape o7
  have G9 := ((Gro.of_below (b := b) (c := b) b1).trans ((G3.trans G4).trans G7))
  have T := ((Q1.set 0 (by simp) (.int .i64 e1)).set 1 (by simp) (.int .i64 e2)).set 2 (by simp) (.slice A7 e3.length c7)
  replace G9 := ((G9.newset (k := w.heap.size) (Nat.le_refl _) 0 (.int .i64 e1)).newset (k := w.heap.size) (Nat.le_refl _) 1 (.int .i64 e2)).newset (k := w.heap.size) (Nat.le_refl _) 2 (.slice A7 e3.length c7)
  have gg := ((Gro.set w.heap.size w.heap.size 0 w7 (.int .i64 e1)).trans (Gro.set w.heap.size w.heap.size 1 _ (.int .i64 e2))).trans (Gro.set w.heap.size w.heap.size 2 _ (.slice A7 e3.length c7))
  have h9 := h7.new' gg (by omega) (fun hl ad ha => hlt hl ad ha)
  have o9 := own_mono (gg.own o7 (by omega)) (show w.heap.size ≤ w4.heap.size by omega)
  simp only [List.set_cons_zero, List.set_cons_succ] at T
  have D0 := (Q1.2 0 _ rfl).1
  have D1 := (Q1.2 1 _ rfl).1
  have D2 := (Q1.2 2 _ rfl).1
  have F0 := (Q1.2 0 _ rfl).2
  have F1 := (Q1.2 1 _ rfl).2
  have F2 := (Q1.2 2 _ rfl).2
  go_wp2_with fail
  clear D0 D1 D2 F0 F1 F2 gg Q1
  generalize World.setCell _ _ _ = w9 at T G9 h9 o9 ⊢
  refine bodyPost_ret (results_cell1 (k := 2) (t := 29) Try.results42 rfl T Try.underlying29 rfl (by kernel_rfl)) rfl ?_
  have eG : getV l s = ((e1, e2, e3), s3) := by
    have q1 : nx numR 0 l s = (e1, s1) := he1
    have q2 : nx numR 0 l s1 = (e2, s2) := he2
    have q3 : nx bytesR [] l s2 = (e3, s3) := he3
    unfold getV
    simp only [sq, q1, q2, q3]
  rw [eG]
  exact ⟨⟨e1, e2, A7, c7, e3⟩, rfl, rfl, o9, h9, G9⟩
end Go.Proofs.Ytoceipdkmafagaa
