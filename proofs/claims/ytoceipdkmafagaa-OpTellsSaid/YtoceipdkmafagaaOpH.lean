import Derived.Test.YtoceipdkmafagaaOpG
/-! op: the writer's value -/
namespace Go.Proofs.Ytoceipdkmafagaa
open Go.RowKit Go.Cov
theorem ns_box (w : World) (ns : List Int) (t : TypeId) : Rd (w.alloc (.cells (ns.map (Value.int .i64)).toArray t)) (some ⟨w.heap.size, 0, none⟩) (ns.map (.int .i64)) := by
  have := rd_box w (ns.map (Value.int .i64)).toArray t
  simpa using this
theorem nums_n {w : World} {wb : Nat} {v : Value} {l : List UInt8} (hW : Wt 5 w wb v l) {A : Option Addr} {c : Nat} {ns : List Int} (n : Nat) (hn : ns.length = n) (hr : Rd w A (ns.map (.int .i64))) (hA : ApaW wb v A) (hl : l.length + 8 * n ≤ 1000000000000) :
    Calls Try.prog 23 #[.pointer (some ⟨wb, 0, none⟩), .slice A n c] w fun e w' => ∃ r v', e = .returned r ∧ Wt 5 w' wb v' (l ++ nsB ns) ∧ Tw wb v w v' w' := by
  subst hn; exact nums_any hW hr hA hl
theorem texts_n {w : World} {wb : Nat} {v : Value} {l : List UInt8} (hW : Wt 5 w wb v l) {A : Option Addr} {c : Nat} {ls : List (List UInt8)} (n : Nat) (hnl : ls.length = n) (hr : ∀ v' W, Tw wb v w v' W → RowRd W A ls) (hs : ∀ s ∈ ls, s.length ≤ 65536) (hn : n ≤ 1000) (hl : l.length ≤ 1000000000000) :
    Calls Try.prog 24 #[.pointer (some ⟨wb, 0, none⟩), .slice A n c] w fun e w' => ∃ r v', e = .returned r ∧ Wt 5 w' wb v' (l ++ txB ls) ∧ Tw wb v w v' w' := by
  subst hnl; exact texts_any hW hr hs hn hl
/-- a row of one text, made here -/
theorem row1_box {w : World} {wb : Nat} {v : Value} {l : List UInt8} (hW : Wt 5 w wb v l) {B : Option Addr} {n c : Nat} {s : List UInt8} (hn : s.length = n) (t : TypeId) (hc : n ≤ c ∧ c ≤ maxLen) (hr : ∀ v' W, Tw wb v w v' W → Rd W B (s.map byt)) :
    ∀ v' W, Tw wb v (w.alloc (.cells #[.slice B n c] t)) v' W → RowRd W (some ⟨w.heap.size, 0, none⟩) [s] := by
  intro v' W hT
  subst hn
  have hb := below_alloc w (.cells #[.slice B s.length c] t)
  have hr2 := hr v' W ((Tw.of_below hb).trans hT)
  have h1 : Rd (w.alloc (.cells #[.slice B s.length c] t)) (some ⟨w.heap.size, 0, none⟩) [.slice B s.length c] := rd_box w #[.slice B s.length c] t
  have hA : ApaW wb v (some ⟨w.heap.size, 0, none⟩) := ApaW.new hW (fun ad ha => by cases ha; exact Nat.le_refl _)
  refine ⟨[.slice B s.length c], h1.tw hA hT, rfl, fun i l hl => ?_⟩
  match i, hl with
  | 0, hl => cases hl; exact ⟨_, rfl, B, c, rfl, hc.1, hc.2, hr2⟩
set_option maxHeartbeats 3200000 in
theorem value_any {w : World} {wb : Nat} {v : Value} {l : List UInt8} (hW : Wt 5 w wb v l) (x : En) (hr : ∀ v' W, Tw wb v w v' W → Rd W x.A (x.op.map byt)) (hs : x.op.length ≤ 65536) (hc : x.op.length ≤ x.cap ∧ x.cap ≤ maxLen) (hl : l.length ≤ 500000000000) :
    Calls Try.prog 25 #[.pointer (some ⟨wb, 0, none⟩), .agg #[.int .i64 x.c, .int .i64 x.r, .slice x.A x.op.length x.cap]] w fun e w' => ∃ r v', e = .returned r ∧ Wt 5 w' wb v' (l ++ putV x.data) ∧ Tw wb v w v' w' := by
  have b1 := below_alloc w (.cells #[.int .i64 x.c, .int .i64 x.r, .slice x.A x.op.length x.cap] 29)
  have V := Var3.new w (.int .i64 x.c) (.int .i64 x.r) (.slice x.A x.op.length x.cap) 29
  go_enter Try.func25, Try.ntmps25
  go_upto_region 1 with fail
  generalize hw1 : w.alloc _ = w1 at b1 V ⊢
  have n1 : w1.heap.size = w.heap.size + 1 := by rw [← hw1]; simp
  clear hw1
  have hW1 := hW.on b1
  have b2 := below_alloc w1 (.cells #[.int .i64 x.c, .int .i64 x.r] 2)
  have hW2 := hW1.on b2
  have r2 := ns_box w1 [x.c, x.r] 2
  have a2 : ApaW wb v (some ⟨w1.heap.size, 0, none⟩) := ApaW.new hW1 (fun ad ha => by cases ha; exact Nat.le_refl _)
  rw [n1] at r2 a2
  obtain ⟨C0, C1, C2, F0, F1, F2, VL⟩ := V
  go_wp2_with fail
  refine (nums_n hW2 2 rfl r2 a2 (by omega)).mono ?_
  rintro e w3 ⟨_, v3, rfl, hW3, hT3⟩
  have aB : ApaW wb v (some ⟨w.heap.size, 2, none⟩) := ApaW.new hW (fun ad ha => by cases ha; exact Nat.le_refl _)
  have D2 := hT3.cell aB (cell_on b2 C2)
  have hr3 : ∀ v' W, Tw wb v3 w3 v' W → Rd W x.A (x.op.map byt) := fun v' W hT => hr v' W ((Tw.of_below b1).trans ((Tw.of_below b2).trans (hT3.trans hT)))
  have r3 := row1_box hW3 rfl 22 hc hr3
  have hW4 := hW3.on (below_alloc w3 (.cells #[.slice x.A x.op.length x.cap] 22))
  have e3 : (l ++ nsB [x.c, x.r]) ++ txB [x.op] = l ++ putV x.data := by simp [nsB, txB, putV, En.data]
  have hl3 : (l ++ nsB [x.c, x.r]).length ≤ 1000000000000 := by rw [List.length_append, nsB_len]; simp; omega
  generalize l ++ nsB [x.c, x.r] = l3 at hW3 hW4 e3 hl3
  go_wp2_with fail
  refine (texts_n hW4 1 rfl r3 (by intro s hs'; rw [List.mem_singleton.1 hs']; exact hs) (by omega) hl3).mono ?_
  rintro e w5 ⟨_, v5, rfl, hW5, hT5⟩
  rw [e3] at hW5
  go_wp2_with fail
  refine bodyPost_end (results_none rfl _ _ _) rfl ?_
  exact ⟨_, _, rfl, hW5, (Tw.of_below b1).trans ((Tw.of_below b2).trans (hT3.trans ((Tw.of_below (below_alloc w3 _)).trans hT5)))⟩
end Go.Proofs.Ytoceipdkmafagaa
