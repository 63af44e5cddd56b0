import Derived.Test.YtbfjhclibbonjaaLogF
namespace Go.Proofs.Ytbfjhclibbonjaa
open Go.RowKit Go.Cov
set_option maxRecDepth 100000 in
set_option maxHeartbeats 2000000 in
theorem head_any (w : World) : Calls Try.prog 7 #[] w fun e w' => e = .returned (.bool true) ∧ Below w.heap.size w w' := by
  have KA := append_any (s := 4) (lg_nil w) ⟨1, 2, none, 0, []⟩ (sl_nil w)
  rw [show appR 4 [] (En.data ⟨1, 2, none, 0, []⟩) = (4, [(1, 2, [])], 0) by decide +kernel] at KA
  have K1 := hid KA
  clear KA
  go_enter Try.func7, Try.ntmps7
  go_wp2_with fail
  refine K1.out.mono ?_
  rintro e w2 ⟨C, q, ys, rfl, hl, _, hb2⟩
  have V := hid (Var2.new w2 (.int .i64 4) (.slice C ys.length q) 26)
  have b3 := below_step hb2 (below_alloc w2 (.cells #[.int .i64 4, .slice C ys.length q] 26))
  have hl3 := hl.below (below_alloc w2 (.cells #[.int .i64 4, .slice C ys.length q] 26))
  have ka := att_any (s := 4) hl3 5
  rw [show atE 4 [(1, 2, [])] 5 = some (1, 2, []) by decide +kernel] at ka
  have K2 := hid ka
  clear ka
  go_wp2_with fail
  refine K2.out.mono ?_
  rintro e w4 ⟨x, rfl, hx, hsx, hb4⟩
  have hx2 : x.r = 2 := congrArg (fun d : ED => d.2.1) hx
  have b4 := below_step b3 hb4
  have hl4 := hl3.below hb4
  obtain ⟨v0, v1, _⟩ := V.out.on hb4
  have X := hid (Var3.new w4 (.int .i64 x.c) (.int .i64 x.r) (.slice x.A x.op.length x.cap) 32)
  have hb5 := below_alloc w4 (.cells #[.int .i64 x.c, .int .i64 x.r, .slice x.A x.op.length x.cap] 32)
  have b5 := below_step b4 hb5
  have hl5 := hl4.below hb5
  obtain ⟨v0, v1, _⟩ := (V.out.on hb4).on hb5
  have kc := cut_any (s := 4) hl5 5
  rw [show cutR 4 [(1, 2, [])] 5 = (5, [], 0) by decide +kernel] at kc
  have K3 := hid kc
  have HX := hid hx2
  clear kc hx hx2
  unfold En.agg
  go_wp2_with fail
  refine K3.out.mono ?_
  rintro e w6 ⟨C6, q6, zs, rfl, hm, _, hb6⟩
  have b6 := below_step b5 hb6
  have hl6 := hl5.below hb6
  have hb7 := below_alloc w6 (.cells #[.int .i64 5, .slice C6 zs.length q6] 26)
  have b7 := below_step b6 hb7
  have hm7 := hm.below hb7
  have hl7 := hl6.below hb7
  obtain ⟨v0, v1, _⟩ := (((V.out.on hb4).on hb5).on hb6).on hb7
  obtain ⟨x0, x1, x2, _⟩ := (X.out.on hb6).on hb7
  rw [HX.out] at x1
  have ke := end_any (s := 5) hm7
  rw [show endL 5 [] = 5 by decide +kernel] at ke
  have K4 := hid ke
  clear ke
  go_wp2_with fail
  refine K4.out.mono ?_
  rintro e w8 ⟨rfl, hb8⟩
  have b8 := below_step b7 hb8
  obtain ⟨v0, v1, _⟩ := ((((V.out.on hb4).on hb5).on hb6).on hb7).on hb8
  have kf := find_any (s := 4) (hl7.below hb8) 1 2
  rw [show findL 4 [(1, 2, [])] 1 2 = 5 by decide +kernel] at kf
  have K5 := hid kf
  clear kf
  go_wp2_with fail
  refine K5.out.mono ?_
  rintro e w9 ⟨rfl, hb9⟩
  go_wp2_with fail
  go_ret
  exact ⟨rfl, below_step b8 hb9⟩
theorem great_any {s : Int} {A : Option Addr} {c : Nat} {xs : List En} {w : World} :
    Calls Try.prog 13 #[.agg #[.int .i64 s, .slice A xs.length c]] w fun e w' => e = .returned (.bool (decide (1000 < (xs.length : Int)))) ∧ Below w.heap.size w w' := by
  have hb := below_alloc w (.cells #[.int .i64 s, .slice A xs.length c] 26)
  go_enter Try.func13, Try.ntmps13
  go_wp2_with fail
  go_ret
  exact ⟨rfl, hb⟩
end Go.Proofs.Ytbfjhclibbonjaa
