import Derived.Test.YtelmndpelgbboaaCliH
import Derived.Test.YtelmndpelgbboaaPlain1
import Derived.Lib.SlBytesConst
namespace Go.Proofs.Ytelmndpelgbboaa
open Go.RowKit Go.Conc Go.Cov Go.Lib
set_option maxHeartbeats 800000 in
theorem takec_none {w : World} {base cb : Nat} {s : Cs} (h : Cl w base cb s) (hx : s.ans = []) :
    Calls Try.prog 19 #[.pointer (some ⟨cb, 0, none⟩)] w fun e w' => e = .returned (.tuple #[.int .i64 0, .slice none 0 0, .bool false]) ∧ Cl w' base cb s ∧ Gro cb s.xc w w' := by
  have c9 := (h.row.2 9 _ rfl).1
  have hb := h.box
  rw [hx] at hb
  go_enter Try.func19, Try.ntmps19
  go_wp2_with fail
  refine (take_no hb).mono ?_
  rintro e w1 ⟨rfl, hb1, hg1⟩
  go_wp2_with fail
  have V0 := box_cell w1 #[.int .i64 0, .slice none 0 0] 59 0 _ rfl
  have V1 := box_cell w1 #[.int .i64 0, .slice none 0 0] 59 1 _ rfl
  have ba := below_alloc w1 (.cells #[.int .i64 0, .slice none 0 0] 59)
  generalize w1.alloc (.cells #[.int .i64 0, .slice none 0 0] 59) = va at V0 V1 ba ⊢
  have k0 := fun W (hW : Below va.heap.size va W) => cell_on hW V0
  have k1 := fun W (hW : Below va.heap.size va W) => cell_on hW V1
  have hG1 : Gro cb s.xc w w1 := Gro.of_grown hg1
  have hG := hG1.trans (Gro.of_below ba)
  have hC : Cl va base cb s := (⟨h.row.keep (hg1.block cb h.row.1 (fun e => h.ne.2 (Option.some.inj e))) hg1.size, by rw [hx]; exact hb1, h.lo, h.ne, ⟨hG1.rd h.body.1 h.body.2, h.body.2⟩, fun a ha => by rw [hx] at ha; cases ha⟩ : Cl w1 base cb s).gro ba
  refine wp_region_noPanic ?_
  refine wp_region_held_drew (S := (fun W => Below va.heap.size va W)) (by kernel_rfl) ?_ (fun hHeld => ?_)
  · exact (Below.refl _ _).drew
  refine wpAnyH_take (i := 0) (oi := ?oi1) (v := ?v1) ?hi1 (by kernel_rfl) (by kernel_rfl) (by kernel_rfl) ?hQ1 ?hy1 (by assumption) ?hrest1
  case hi1 => (simp only [List.getElem?_toArray, List.getElem?_cons_zero]; try rfl)
  case hQ1 => exact fun _ _ _ h => h
  case hy1 =>
    refine Or.inl ⟨by rfl, ?_⟩
    (intro wq hSw; (try dsimp only at hSw); go_simp; try with_reducible rfl)
  (try simp only [Act.put, List.setIfInBounds_toArray, List.set_cons_zero, List.set_cons_succ])
  refine wpAnyH_take (i := 1) (oi := ?oi2) (v := ?v2) ?hi2 (by kernel_rfl) (by kernel_rfl) (by kernel_rfl) ?hQ2 ?hy2 (by assumption) ?hrest2
  case hi2 => (simp only [List.getElem?_toArray, List.getElem?_cons_succ, List.getElem?_cons_zero]; try rfl)
  case hQ2 => exact fun _ _ _ h => h
  case hy2 =>
    refine Or.inl ⟨by rfl, ?_⟩
    (intro wq hSw; (try dsimp only at hSw); go_simp; try with_reducible rfl)
  (try simp only [Act.put, List.setIfInBounds_toArray, List.set_cons_zero, List.set_cons_succ])
  refine wpAnyH_take (i := 2) (oi := ?oi3) (v := ?v3) ?hi3 (by kernel_rfl) (by kernel_rfl) (by kernel_rfl) ?hQ3 ?hy3 (by assumption) ?hrest3
  case hi3 => (simp only [List.getElem?_toArray, List.getElem?_cons_succ, List.getElem?_cons_zero]; try rfl)
  case hQ3 => exact fun _ _ _ h => h
  case hy3 =>
    refine Or.inl ⟨by rfl, ?_⟩
    (intro wq hSw; (try dsimp only at hSw); go_simp; try with_reducible rfl)
  (try simp only [Act.put, List.setIfInBounds_toArray, List.set_cons_zero, List.set_cons_succ])
  refine wpAnyH_take (i := 3) (oi := ?oi4) (v := ?v4) ?hi4 (by kernel_rfl) (by kernel_rfl) (by kernel_rfl) ?hQ4 ?hy4 (by assumption) ?hrest4
  case hi4 => (simp only [List.getElem?_toArray, List.getElem?_cons_succ, List.getElem?_cons_zero]; try rfl)
  case hQ4 => exact fun _ _ _ h => h
  case hy4 =>
    refine Or.inl ⟨by rfl, ?_⟩
    (intro wq hSw; (try dsimp only at hSw); go_simp; try with_reducible rfl)
  (try simp only [Act.put, List.setIfInBounds_toArray, List.set_cons_zero, List.set_cons_succ])
  refine wpAnyH_take (i := 4) (oi := ?oi5) (v := ?v5) ?hi5 (by kernel_rfl) (by kernel_rfl) (by kernel_rfl) ?hQ5 ?hy5 (by assumption) ?hrest5
  case hi5 => (simp only [List.getElem?_toArray, List.getElem?_cons_succ, List.getElem?_cons_zero]; try rfl)
  case hQ5 => exact fun _ _ _ h => h
  case hy5 =>
    refine Or.inl ⟨by rfl, ?_⟩
    (intro wq hSw; (try dsimp only at hSw); go_simp; try with_reducible rfl)
  (try simp only [Act.put, List.setIfInBounds_toArray, List.set_cons_zero, List.set_cons_succ])
  refine wpAnyH_take (i := 5) (oi := ?oi6) (v := ?v6) ?hi6 (by kernel_rfl) (by kernel_rfl) (by kernel_rfl) ?hQ6 ?hy6 (by assumption) ?hrest6
  case hi6 => (simp only [List.getElem?_toArray, List.getElem?_cons_succ, List.getElem?_cons_zero]; try rfl)
  case hQ6 => exact fun _ _ _ h => h
  case hy6 =>
    refine Or.inl ⟨by rfl, ?_⟩
    (intro wq hSw; (try dsimp only at hSw); go_simp; try with_reducible rfl)
  (try simp only [Act.put, List.setIfInBounds_toArray, List.set_cons_zero, List.set_cons_succ])
  refine wpAnyH_take (i := 6) (oi := ?oi7) (v := ?v7) ?hi7 (by kernel_rfl) (by kernel_rfl) (by kernel_rfl) ?hQ7 ?hy7 (by assumption) ?hrest7
  case hi7 => (simp only [List.getElem?_toArray, List.getElem?_cons_succ, List.getElem?_cons_zero]; try rfl)
  case hQ7 => exact fun _ _ _ h => h
  case hy7 =>
    refine Or.inl ⟨by rfl, ?_⟩
    (intro wq hSw; (try dsimp only at hSw); go_simp; try with_reducible rfl)
  (try simp only [Act.put, List.setIfInBounds_toArray, List.set_cons_zero, List.set_cons_succ])
  refine wpAnyH_take (i := 7) (oi := ?oi8) (v := ?v8) ?hi8 (by kernel_rfl) (by kernel_rfl) (by kernel_rfl) ?hQ8 ?hy8 (by assumption) ?hrest8
  case hi8 => (simp only [List.getElem?_toArray, List.getElem?_cons_succ, List.getElem?_cons_zero]; try rfl)
  case hQ8 => exact fun _ _ _ h => h
  case hy8 =>
    refine Or.inl ⟨by rfl, ?_⟩
    (intro wq hSw; (try dsimp only at hSw); go_simp; try with_reducible rfl)
  (try simp only [Act.put, List.setIfInBounds_toArray, List.set_cons_zero, List.set_cons_succ])
  refine wpAnyH_done (by kernel_rfl) ?_ _
  refine NoPanic.normal ?_
  go_wp2_with fail
  go_ret3
  exact ⟨rfl, hC.gro hHeld, hG.trans (Gro.of_below hHeld)⟩
set_option maxRecDepth 100000 in
set_option maxHeartbeats 3200000 in
theorem chead_any (w : World) : Calls Try.prog 7 #[] w fun e w' => e = .returned (.bool true) ∧ Below w.heap.size w w' := by
  have kc := fun (w : World) (C : Array Value) (n c : Nat) => Lib.run_convert_bytes_const (P := Try.prog) w 29 5 C n c Try.underlying29 Try.underlying5
  go_enter Try.func7, Try.ntmps7
  go_wp2_with fail
  refine (new_cl (f := 1) (number := 7) (again := 3) (room := 2) ⟨by decide, by decide, by decide, by decide, by decide, by decide, by decide⟩ w).mono ?_
  rintro e w1 ⟨cb, xb, xc, rfl, hC, hb1⟩
  go_wp2_with fail
  refine (new_cl_no (f := 4) (number := 7) (again := 3) (room := 2) (by unfold okC; omega) w1).mono ?_
  rintro e w2 ⟨rfl, hb2⟩
  go_wp2_with fail
  refine (new_cl_no (f := 1) (number := 7) (again := 3) (room := 0) (by unfold okC; omega) w2).mono ?_
  rintro e w3 ⟨rfl, hb3⟩
  have hC := (hC.gro hb2).gro hb3
  have b3 := below_step (below_step hb1 hb2) hb3
  go_wp2_with fail
  have e1 := below_alloc w3 (.cells #[.int .u8 97] 5 (1, 2))
  have r1 : Rd (w3.alloc (.cells #[.int .u8 97] 5 (1, 2))) (some ⟨w3.heap.size, 0, none⟩) (([97] : List UInt8).map byt) := rd_boxf w3 #[.int .u8 97] 5 (1, 2)
  have hlt := hC.lt
  generalize (w3.alloc (.cells #[.int .u8 97] 5 (1, 2))) = w4 at e1 r1 ⊢
  have hC := hC.gro e1
  have b4 := below_step b3 e1
  refine (ask_yes (b := [97]) (d := 1) hC (by unfold Fine okC new0; simp) (by unfold mayAsk new0; simp) (fun W hW => hW.rd r1 (fun ad hA => by cases hA; exact ⟨Nat.ne_of_gt hlt.1, Nat.ne_of_gt hlt.2.2⟩))).mono ?_
  rintro e w5 ⟨V, k, g, rfl, hC, hE, hg, hV, hcap, hG⟩
  have b5 := b4.trans (hG.below hC.lo.1 hC.lo.2.2 b4.size)
  go_wp2_with fail
  have e1 := below_alloc w5 (.cells #[.int .u8 98] 5 (1, 2))
  generalize (w5.alloc (.cells #[.int .u8 98] 5 (1, 2))) = w6 at e1 ⊢
  refine (ask_no (b := [98]) (d := 1) (hC.gro e1) (by unfold Fine okC asks new0; simp) (by unfold mayAsk asks new0; simp)).mono ?_
  rintro e w7 ⟨rfl, hb7⟩
  have hC := (hC.gro e1).gro hb7
  have hE := hE.below (below_step e1 hb7)
  have b7 := below_step (below_step b5 e1) hb7
  go_wp2_with fail
  have e1 := below_alloc w7 (.cells #[.int .u8 114] 5 (1, 2))
  have r1 : Rd (w7.alloc (.cells #[.int .u8 114] 5 (1, 2))) (some ⟨w7.heap.size, 0, none⟩) (([114] : List UInt8).map byt) := rd_boxf w7 #[.int .u8 114] 5 (1, 2)
  have hlt := hC.lt
  generalize (w7.alloc (.cells #[.int .u8 114] 5 (1, 2))) = w8 at e1 r1 ⊢
  have hC := hC.gro e1
  have hE := hE.below e1
  have b8 := below_step b7 e1
  refine (handle_mine hC ⟨2, 0, 0, 4, 0, 0, 0, 0, 7, 1, some ⟨w7.heap.size, 0, none⟩, 1, [114], false, 0, none, 0, 0, none, 0, 0⟩ ⟨rfl, rfl, by show (0 : Int) ≤ 4; decide, by show (4 : Int) ≤ 1073741824; decide⟩ (by unfold asks new0; simp) (fun W hW => hW.rd r1 (fun ad hA => by cases hA; exact ⟨Nat.ne_of_gt hlt.1, Nat.ne_of_gt hlt.2.2⟩)) (by show 1 ≤ 140737488351232; decide)).mono ?_
  rintro e w9 ⟨V2, k2, ⟨v9, rfl⟩, hC, hG9⟩
  have hts : takes (asks (new0 1 7 3 2 xb xc) [97] V k) ⟨2, 0, 0, 4, 0, 0, 0, 0, 7, 1, some ⟨w7.heap.size, 0, none⟩, 1, [114], false, 0, none, 0, 0, none, 0, 0⟩ V2 k2 = ⟨7, 1, 1, 3, V, k, [97], false, 0, 4, 2, xb, xc, [⟨1, V2, k2, [114]⟩]⟩ := by simp [takes, asks, new0, sees]
  rw [hts] at hC
  have b9 := b8.trans (hG9.below hC.lo.1 hC.lo.2.2 b8.size)
  clear r1 e1 hE
  go_wp2_with fail
  refine (takec_some hC (x := ⟨1, V2, k2, [114]⟩) (l := []) rfl).mono ?_
  rintro e w10 ⟨rfl, hC10, hG10⟩
  have rV := (hC.ans ⟨1, V2, k2, [114]⟩ (List.mem_singleton_self _))
  have rV10 := hG10.rd rV.1 rV.2
  have b10 := b9.trans (hG10.below hC.lo.1 hC.lo.2.2 b9.size)
  go_wp2_with fail
  refine (ask_yes (b := []) (B := none) (d := 0) hC10 (by unfold Fine okC; simp) (by unfold mayAsk; simp) (fun W hW => Rd.nil _ _)).mono ?_
  rintro e w11 ⟨V3, k3, g3, rfl, hC11, hE3, hg3, hV3, hcap3, hG11⟩
  have rV11 := hG11.rd rV10 rV.2
  have b11 := b10.trans (hG11.below hC.lo.1 hC.lo.2.2 b10.size)
  obtain ⟨ad3, ha3, hcell, _⟩ := hE3.at' 0 (by simp)
  cases ha3
  have y2 : w11.cell? ⟨g3, 2, none⟩ = some (.int .i64 1) := by have := hcell 2 _ rfl; simpa [add_none] using this
  have y9 : w11.cell? ⟨g3, 9, none⟩ = some (.int .i64 2) := by have := hcell 9 _ rfl; simpa [add_none] using this
  have hs : str [114] = ⟨#[114]⟩ := by decide
  have cv1 : (convert 29 9 (.slice V2 1 k2)).run Try.prog w11 = .ok (.string ⟨#[114]⟩) w11 := by rw [← hs]; exact conv_bs (P := Try.prog) Try.underlying29 Try.underlying5 Try.underlying9 rV11 k2
  go_wp2_with fail
  go_ret
  exact ⟨rfl, b11⟩
end Go.Proofs.Ytelmndpelgbboaa
