import Derived.Test.YtnkocbdbfkhgmaaDoorCodeH
import Derived.Test.YtnkocbdbfkhgmaaDoorPlain1
/-! code: the next function -/
namespace Go.Proofs.YtnkocbdbfkhgmaaDoor
open Go.RowKit Go.Cov
theorem cnt_err {α : Type} (most er : Int) (g : List UInt8 → Int × Int → α × Int × Int) (l : List UInt8) (s : Int × Int) (h : s.2 ≠ 0) : cnt most er g l s = ([], s) := by
  unfold cnt
  rw [nx, if_neg h]
  have e : chk most er ((0 : Int), s) = s := by unfold chk; rw [if_neg]; exact fun hh => h hh.1
  rw [e]; rfl
theorem nx_no {α : Type} (f : List UInt8 → Int → α × Int × Int) (d : α) (l : List UInt8) (s : Int × Int) (h : s.2 ≠ 0) : nx f d l s = (d, s) := by rw [nx, if_neg h]
/-- behind a function's name -/
def restC : List UInt8 → Int × Int → (List Int × Int × Int × List ID) × Int × Int := sq (cnt 16 111 (nx numR 0)) (sq (nx numR 0) (sq (nx numR 0) (cnt 16384 111 getI)))
theorem getC_is (l : List UInt8) (p : Int) {nm : List UInt8} {s : Int × Int} (h : bytesR l p = (nm, s)) : getC l (p, 0) = ((nm, (restC l s).1), (restC l s).2) := by
  show sq (nx bytesR []) restC l (p, 0) = _
  unfold sq
  rw [nx_ok, h]
theorem restC_err (l : List UInt8) (s : Int × Int) (h : s.2 ≠ 0) : restC l s = (([], 0, 0, []), s) := by
  unfold restC sq
  simp only [cnt_err _ _ _ _ _ h, nx_no _ _ _ _ h]
theorem restC_is (l : List UInt8) {s s2 s3 s4 s5 : Int × Int} {ps : List Int} {x y : Int} {is : List ID} (h2 : cnt 16 111 (nx numR 0) l s = (ps, s2)) (h3 : nx numR 0 l s2 = (x, s3)) (h4 : nx numR 0 l s3 = (y, s4)) (h5 : cnt 16384 111 getI l s4 = (is, s5)) : restC l s = ((ps, x, y, is), s5) := by
  unfold restC sq
  rw [h2]; dsimp only
  rw [h3]; dsimp only
  rw [h4]; dsimp only
  rw [h5]
/-- what a function that was read leads to -/
structure CoOwn (w : World) (base : Nat) (x : Co) : Prop where
  p : OwnEls tyEl w base 43 (.slice x.pA x.ps.length x.pc) x.ps
  i : OwnEls inEl w base 50 (.slice x.iA x.is.length x.ic) x.is
theorem conv_name (w : World) {A : Option Addr} {l : List UInt8} (h : Rd w A (l.map byt)) (cap : Nat) : (convert 26 9 (.slice A l.length cap)).run Tryd.prog w = .ok (.string (str l)) w := conv_bs Tryd.underlying26 Tryd.underlying5 Tryd.underlying9 h cap
theorem CoOwn.rd {w : World} {base : Nat} {x : Co} (h : CoOwn w base x) : CoRd w x := by
  obtain ⟨A, c, e, h1, h2, h3⟩ := h.p.rd
  obtain ⟨B, d, e', g1, g2, g3⟩ := h.i.rd
  injection e with e1 e2 e3
  injection e' with e4 e5 e6
  exact ⟨by rw [e1]; exact h3, by rw [e4]; exact g3, by rw [e3]; exact ⟨h1, h2⟩, by rw [e6]; exact ⟨g1, g2⟩⟩
set_option maxRecDepth 100000 in
set_option maxHeartbeats 12800000 in
theorem code_any {w : World} {b c : Nat} {A : Option Addr} {l : List UInt8} {p0 : Int} (h : Rr w b A c l (p0, 0)) :
    Calls Tryd.prog 31 #[.pointer (some ⟨b, 0, none⟩)] w fun e w' => ∃ x : Co, e = .returned (.agg #[.string (str x.nm), .slice x.pA x.ps.length x.pc, .int .i64 x.res, .int .i64 x.slots, .slice x.iA x.is.length x.ic]) ∧ x.data = (getC l (p0, 0)).1 ∧ CoOwn w' w.heap.size x ∧ Rr w' b A c l (getC l (p0, 0)).2 ∧ Gro b b w w' := by
  have hAl := h.lt
  have hbw := h.row.1
  have b1 := below_alloc w (.cells #[.pointer (some ⟨b, 0, none⟩)] 55)
  have R1 := Row.new w [.pointer (some ⟨b, 0, none⟩)] 55
  obtain ⟨w1, hw1⟩ : ∃ w1, w.alloc (.cells #[.pointer (some ⟨b, 0, none⟩)] 55) = w1 := ⟨_, rfl⟩
  have n1 : w1.heap.size = w.heap.size + 1 := by rw [← hw1]; simp
  change Row (w.alloc (.cells #[.pointer (some ⟨b, 0, none⟩)] 55)) _ _ at R1
  rw [hw1] at b1 R1
  have b2 := below_alloc w1 (.cells #[.string ⟨#[]⟩, .slice none 0 0, .int .i64 0, .int .i64 0, .slice none 0 0] 46)
  have R2 := Row.new w1 [.string ⟨#[]⟩, .slice none 0 0, .int .i64 0, .int .i64 0, .slice none 0 0] 46
  obtain ⟨w2, hw2⟩ : ∃ w2, w1.alloc (.cells #[.string ⟨#[]⟩, .slice none 0 0, .int .i64 0, .int .i64 0, .slice none 0 0] 46) = w2 := ⟨_, rfl⟩
  have n2 : w2.heap.size = w.heap.size + 2 := by rw [← hw2]; simp [n1]
  change Row (w1.alloc (.cells #[.string ⟨#[]⟩, .slice none 0 0, .int .i64 0, .int .i64 0, .slice none 0 0] 46)) _ _ at R2
  rw [hw2, n1] at R2
  rw [hw2] at b2
  have b3 := below_alloc w2 (.cells #[.string ⟨#[]⟩, .slice none 0 0, .int .i64 0, .int .i64 0, .slice none 0 0] 46)
  have R3 := Row.new w2 [.string ⟨#[]⟩, .slice none 0 0, .int .i64 0, .int .i64 0, .slice none 0 0] 46
  obtain ⟨w3, hw3⟩ : ∃ w3, w2.alloc (.cells #[.string ⟨#[]⟩, .slice none 0 0, .int .i64 0, .int .i64 0, .slice none 0 0] 46) = w3 := ⟨_, rfl⟩
  have n3 : w3.heap.size = w.heap.size + 3 := by rw [← hw3]; simp [n2]
  change Row (w2.alloc (.cells #[.string ⟨#[]⟩, .slice none 0 0, .int .i64 0, .int .i64 0, .slice none 0 0] 46)) _ _ at R3
  rw [hw3, n2] at R3
  rw [hw3] at b3
  have b13 := below_step (below_step b1 b2) b3
  have hR : Rc w w3 (w.heap.size + 3) (w.heap.size + 1) (w.heap.size + 2) b w.heap.size [.string ⟨#[]⟩, .slice none 0 0, .int .i64 0, .int .i64 0, .slice none 0 0] [.pointer (some ⟨b, 0, none⟩)] [.string ⟨#[]⟩, .slice none 0 0, .int .i64 0, .int .i64 0, .slice none 0 0] A c l (p0, 0) (fun _ => True) :=
    ⟨(R2.below b3), fun _ => ((R1.below b2).below b3), R3, h.below b13, trivial, fun _ _ _ _ _ _ _ => trivial, by omega, by omega, hAl, Gro.of_below b13⟩
  clear R1 R2 R3 b1 b2 b3 b13
  have hcall := fun (W : World) (hW : Rd W A (l.map byt)) => bytes_any hW h.cap h.len p0
  obtain ⟨nm, s1, hg1⟩ : ∃ n s, bytesR l p0 = (n, s) := ⟨_, _, rfl⟩
  rw [getC_is l p0 hg1]
  rw [hg1] at hcall
  obtain ⟨p1, e1⟩ := s1
  dsimp only at hcall ⊢
  go_enter Tryd.func31, Tryd.ntmps31
  go_upto_region 3 with fail
  clear hw1 hw2 hw3 n1 n2
  have Cq := hR.cq 0 _ rfl
  have C0 := (hR.rr.row.2 0 _ rfl).1
  have C1 := (hR.rr.row.2 1 _ rfl).1
  have bcur := (Below.refl w3.heap.size w3).drew
  refine wp_region_noPanic ?_
  refine wp_region_held_drew (S := (fun W => W.cell? ⟨b, 0, none⟩ = some (.slice A l.length c) ∧ W.cell? ⟨w.heap.size, 0, none⟩ = some (.pointer (some ⟨b, 0, none⟩)))) (by kernel_rfl) ?_ (fun hHeld => ?_)
  · exact ⟨C0, Cq⟩
  refine wpAnyH_take (i := 0) (oi := ?oi1) (v := ?v1) ?hi1 (by kernel_rfl) (by kernel_rfl) (by kernel_rfl) ?hQ1 ?hy1 (by assumption) ?hrest1
  case hi1 => (simp only [List.getElem?_toArray, List.getElem?_cons_zero]; try rfl)
  case hQ1 => exact fun _ _ _ h => h
  case hy1 =>
    refine Or.inl ⟨by rfl, ?_⟩
    (intro wq hSw; (try dsimp only at hSw); go_simp; try with_reducible rfl)
  (try simp only [Act.put, List.setIfInBounds_toArray, List.set_cons_zero, List.set_cons_succ])
  refine wpAnyH_take (i := 1) (oi := ?oi2) (v := ?v2) ?hi2 (by kernel_rfl) (by kernel_rfl) (by kernel_rfl) ?hQ2 ?hy2 (by assumption) ?hrest2
  case hi2 => (simp only [List.getElem?_toArray, List.getElem?_cons_succ, List.getElem?_cons_zero]; try rfl)
  case hQ2 => exact fun _ _ _ h => h
  case hy2 =>
    refine Or.inl ⟨by rfl, ?_⟩
    (intro wq hSw; (try dsimp only at hSw); go_simp; try with_reducible rfl)
  (try simp only [Act.put, List.setIfInBounds_toArray, List.set_cons_zero, List.set_cons_succ])
  refine wpAnyH_take (i := 2) (oi := ?oi3) (v := ?v3) ?hi3 (by kernel_rfl) (by kernel_rfl) (by kernel_rfl) ?hQ3 ?hy3 (by assumption) ?hrest3
  case hi3 => (simp only [List.getElem?_toArray, List.getElem?_cons_succ, List.getElem?_cons_zero]; try rfl)
  case hQ3 => exact fun _ _ _ h => h
  case hy3 =>
    refine Or.inl ⟨by rfl, ?_⟩
    (intro wq hSw; (try dsimp only at hSw); go_simp; try with_reducible rfl)
  (try simp only [Act.put, List.setIfInBounds_toArray, List.set_cons_zero, List.set_cons_succ])
  refine wpAnyH_take (i := 3) (oi := ?oi4) (v := ?v4) ?hi4 (by kernel_rfl) (by kernel_rfl) (by kernel_rfl) ?hQ4 ?hy4 (by assumption) ?hrest4
  case hi4 => (simp only [List.getElem?_toArray, List.getElem?_cons_succ, List.getElem?_cons_zero]; try rfl)
  case hQ4 => exact fun _ _ _ h => h
  case hy4 =>
    refine Or.inl ⟨by rfl, ?_⟩
    (intro wq hSw; (try dsimp only at hSw); go_simp; try with_reducible rfl)
  (try simp only [Act.put, List.setIfInBounds_toArray, List.set_cons_zero, List.set_cons_succ])
  refine wpAnyH_take (i := 4) (oi := ?oi5) (v := ?v5) ?hi5 (by kernel_rfl) (by kernel_rfl) (by kernel_rfl) ?hQ5 ?hy5 (by assumption) ?hrest5
  case hi5 => (simp only [List.getElem?_toArray, List.getElem?_cons_succ, List.getElem?_cons_zero]; try rfl)
  case hQ5 => exact fun _ _ _ h => h
  case hy5 =>
    refine Or.inl ⟨by rfl, ?_⟩
    (intro wq hSw; (try dsimp only at hSw); go_simp; try with_reducible rfl)
  (try simp only [Act.put, List.setIfInBounds_toArray, List.set_cons_zero, List.set_cons_succ])
  refine wpAnyH_take (i := 5) (oi := ?oi6) (v := ?v6) ?hi6 (by kernel_rfl) (by kernel_rfl) (by kernel_rfl) ?hQ6 ?hy6 (by assumption) ?hrest6
  case hi6 => (simp only [List.getElem?_toArray, List.getElem?_cons_succ, List.getElem?_cons_zero]; try rfl)
  case hQ6 => exact fun _ _ _ h => h
  case hy6 =>
    refine Or.inl ⟨by rfl, ?_⟩
    (intro wq hSw; (try dsimp only at hSw); go_simp; try with_reducible rfl)
  (try simp only [Act.put, List.setIfInBounds_toArray, List.set_cons_zero, List.set_cons_succ])
  refine wpAnyH_take (i := 6) (oi := ?oi7) (v := ?v7) ?hi7 (by kernel_rfl) (by kernel_rfl) (by kernel_rfl) ?hQ7 ?hy7 (by assumption) ?hrest7
  case hi7 => (simp only [List.getElem?_toArray, List.getElem?_cons_succ, List.getElem?_cons_zero]; try rfl)
  case hQ7 => exact fun _ _ _ h => h
  case hy7 =>
    refine Or.inl ⟨by rfl, ?_⟩
    (intro wq hSw; (try dsimp only at hSw); go_simp; try with_reducible rfl)
  (try simp only [Act.put, List.setIfInBounds_toArray, List.set_cons_zero, List.set_cons_succ])
  refine wpAnyH_take (i := 7) (oi := ?oi8) (v := ?v8) ?hi8 (by kernel_rfl) (by kernel_rfl) (by kernel_rfl) ?hQ8 ?hy8 (by assumption) ?hrest8
  case hi8 => (simp only [List.getElem?_toArray, List.getElem?_cons_succ, List.getElem?_cons_zero]; try rfl)
  case hQ8 => exact fun _ _ _ h => h
  case hy8 =>
    refine Or.inl ⟨by rfl, ?_⟩
    (intro wq hSw; (try dsimp only at hSw); go_simp; try with_reducible rfl)
  (try simp only [Act.put, List.setIfInBounds_toArray, List.set_cons_zero, List.set_cons_succ])
  refine wpAnyH_take (i := 8) (oi := ?oi9) (v := ?v9) ?hi9 (by kernel_rfl) (by kernel_rfl) (by kernel_rfl) ?hQ9 ?hy9 (by assumption) ?hrest9
  case hi9 => (simp only [List.getElem?_toArray, List.getElem?_cons_succ, List.getElem?_cons_zero]; try rfl)
  case hQ9 => exact fun _ _ _ h => h
  case hy9 =>
    refine Or.inl ⟨by rfl, ?_⟩
    (intro wq hSw; (try dsimp only at hSw); go_simp; try with_reducible rfl)
  (try simp only [Act.put, List.setIfInBounds_toArray, List.set_cons_zero, List.set_cons_succ])
  refine wpAnyH_ready (rs := [9]) (by kernel_rfl) (by simp) ?_
  refine AllReadyH.cons (o := ?oi10) ?hi10 (fun K hK => ?hstep10) AllReadyH.nil
  case hi10 => (simp only [List.getElem?_toArray, List.getElem?_cons_succ, List.getElem?_cons_zero]; try rfl)
  go_simp
  (skip)
  refine hK.out _ _ ?_ (fun hHeld => ?_)
  · exact hHeld
  clear hK K
  (try simp only [Act.put, List.setIfInBounds_toArray, List.set_cons_zero, List.set_cons_succ])
  refine wpAnyH_ready (rs := [10]) (by kernel_rfl) (by simp) ?_
  refine AllReadyH.cons (o := ?oi11) ?hi11 (fun K hK => ?hstep11) AllReadyH.nil
  case hi11 => (simp only [List.getElem?_toArray, List.getElem?_cons_succ, List.getElem?_cons_zero]; try rfl)
  go_simp
  (refine (hcall _ (hR.rr.rd.below bcur)).mono ?_; rintro e wx ⟨vx, rfl, ownx, hbx⟩; have bcur := below_step bcur hbx; have hx := hR.on bcur; have C1 := (hx.rr.row.2 1 _ rfl).1; have F1 := (hx.rr.row.2 1 _ rfl).2; have C2 := (hx.rr.row.2 2 _ rfl).1; have F2 := (hx.rr.row.2 2 _ rfl).2)
  refine hK.out _ _ ?_ (fun hHeld => ?_)
  · exact ⟨(hx.rr.row.2 0 _ rfl).1, hx.cq 0 _ rfl⟩
  clear hK K
  (try dsimp only)
  refine wpAnyH_take (i := 11) (oi := ?oi12) (v := ?v12) ?hi12 (by kernel_rfl) (by kernel_rfl) (by kernel_rfl) ?hQ12 ?hy12 (by assumption) ?hrest12
  case hi12 => (simp only [List.getElem?_toArray, List.getElem?_cons_succ, List.getElem?_cons_zero]; try rfl)
  case hQ12 => exact fun _ _ _ h => h
  case hy12 =>
    refine Or.inl ⟨by rfl, ?_⟩
    (intro wq hSw; (try dsimp only at hSw); go_simp; try with_reducible rfl)
  (try simp only [Act.put, List.setIfInBounds_toArray, List.set_cons_zero, List.set_cons_succ])
  refine wpAnyH_take (i := 12) (oi := ?oi13) (v := ?v13) ?hi13 (by kernel_rfl) (by kernel_rfl) (by kernel_rfl) ?hQ13 ?hy13 (by assumption) ?hrest13
  case hi13 => (simp only [List.getElem?_toArray, List.getElem?_cons_succ, List.getElem?_cons_zero]; try rfl)
  case hQ13 => exact fun _ _ _ h => h
  case hy13 =>
    refine Or.inl ⟨by rfl, ?_⟩
    (intro wq hSw; (try dsimp only at hSw); go_simp; try with_reducible rfl)
  (try simp only [Act.put, List.setIfInBounds_toArray, List.set_cons_zero, List.set_cons_succ])
  refine wpAnyH_take (i := 13) (oi := ?oi14) (v := ?v14) ?hi14 (by kernel_rfl) (by kernel_rfl) (by kernel_rfl) ?hQ14 ?hy14 (by assumption) ?hrest14
  case hi14 => (simp only [List.getElem?_toArray, List.getElem?_cons_succ, List.getElem?_cons_zero]; try rfl)
  case hQ14 => exact fun _ _ _ h => h
  case hy14 =>
    refine Or.inl ⟨by rfl, ?_⟩
    (intro wq hSw; (try dsimp only at hSw); go_simp; try with_reducible rfl)
  (try simp only [Act.put, List.setIfInBounds_toArray, List.set_cons_zero, List.set_cons_succ])
  refine wpAnyH_take (i := 14) (oi := ?oi15) (v := ?v15) ?hi15 (by kernel_rfl) (by kernel_rfl) (by kernel_rfl) ?hQ15 ?hy15 (by assumption) ?hrest15
  case hi15 => (simp only [List.getElem?_toArray, List.getElem?_cons_succ, List.getElem?_cons_zero]; try rfl)
  case hQ15 => exact fun _ _ _ h => h
  case hy15 =>
    refine Or.inl ⟨by rfl, ?_⟩
    (intro wq hSw; (try dsimp only at hSw); go_simp; try with_reducible rfl)
  (try simp only [Act.put, List.setIfInBounds_toArray, List.set_cons_zero, List.set_cons_succ])
  refine wpAnyH_take (i := 15) (oi := ?oi16) (v := ?v16) ?hi16 (by kernel_rfl) (by kernel_rfl) (by kernel_rfl) ?hQ16 ?hy16 (by assumption) ?hrest16
  case hi16 => (simp only [List.getElem?_toArray, List.getElem?_cons_succ, List.getElem?_cons_zero]; try rfl)
  case hQ16 => exact fun _ _ _ h => h
  case hy16 =>
    refine Or.inl ⟨by rfl, ?_⟩
    (intro wq hSw; (try dsimp only at hSw); go_simp; try with_reducible rfl)
  (try simp only [Act.put, List.setIfInBounds_toArray, List.set_cons_zero, List.set_cons_succ])
  refine wpAnyH_take (i := 16) (oi := ?oi17) (v := ?v17) ?hi17 (by kernel_rfl) (by kernel_rfl) (by kernel_rfl) ?hQ17 ?hy17 (by assumption) ?hrest17
  case hi17 => (simp only [List.getElem?_toArray, List.getElem?_cons_succ, List.getElem?_cons_zero]; try rfl)
  case hQ17 => exact fun _ _ _ h => h
  case hy17 =>
    refine Or.inl ⟨by rfl, ?_⟩
    (intro wq hSw; (try dsimp only at hSw); go_simp; try with_reducible rfl)
  (try simp only [Act.put, List.setIfInBounds_toArray, List.set_cons_zero, List.set_cons_succ])
  refine wpAnyH_take (i := 17) (oi := ?oi18) (v := ?v18) ?hi18 (by kernel_rfl) (by kernel_rfl) (by kernel_rfl) ?hQ18 ?hy18 (by assumption) ?hrest18
  case hi18 => (simp only [List.getElem?_toArray, List.getElem?_cons_succ, List.getElem?_cons_zero]; try rfl)
  case hQ18 => exact fun _ _ _ h => h
  case hy18 =>
    refine Or.inl ⟨by rfl, ?_⟩
    (intro wq hSw; (try dsimp only at hSw); go_simp; try with_reducible rfl)
  (try simp only [Act.put, List.setIfInBounds_toArray, List.set_cons_zero, List.set_cons_succ])
  refine wpAnyH_ready (rs := [18]) (by kernel_rfl) (by simp) ?_
  refine AllReadyH.cons (o := ?oi19) ?hi19 (fun K hK => ?hstep19) AllReadyH.nil
  case hi19 => (simp only [List.getElem?_toArray, List.getElem?_cons_succ, List.getElem?_cons_zero]; try rfl)
  go_simp
  (skip)
  refine hK.out _ _ ?_ (fun hHeld => ?_)
  · exact ⟨(World.cell?_setCell_other _ _ _ _ (by simp)).trans hHeld.1, (World.cell?_setCell_other _ _ _ _ (by simp)).trans hHeld.2⟩
  clear hK K
  (try simp only [Act.put, List.setIfInBounds_toArray, List.set_cons_zero, List.set_cons_succ])
  refine wpAnyH_take (i := 19) (oi := ?oi20) (v := ?v20) ?hi20 (by kernel_rfl) (by kernel_rfl) (by kernel_rfl) ?hQ20 ?hy20 (by assumption) ?hrest20
  case hi20 => (simp only [List.getElem?_toArray, List.getElem?_cons_succ, List.getElem?_cons_zero]; try rfl)
  case hQ20 => exact fun _ _ _ h => h
  case hy20 =>
    refine Or.inl ⟨by rfl, ?_⟩
    (intro wq hSw; (try dsimp only at hSw); go_simp; try with_reducible rfl)
  (try simp only [Act.put, List.setIfInBounds_toArray, List.set_cons_zero, List.set_cons_succ])
  refine wpAnyH_take (i := 20) (oi := ?oi21) (v := ?v21) ?hi21 (by kernel_rfl) (by kernel_rfl) (by kernel_rfl) ?hQ21 ?hy21 (by assumption) ?hrest21
  case hi21 => (simp only [List.getElem?_toArray, List.getElem?_cons_succ, List.getElem?_cons_zero]; try rfl)
  case hQ21 => exact fun _ _ _ h => h
  case hy21 =>
    refine Or.inl ⟨by rfl, ?_⟩
    (intro wq hSw; (try dsimp only at hSw); go_simp; try with_reducible rfl)
  (try simp only [Act.put, List.setIfInBounds_toArray, List.set_cons_zero, List.set_cons_succ])
  refine wpAnyH_ready (rs := [21]) (by kernel_rfl) (by simp) ?_
  refine AllReadyH.cons (o := ?oi22) ?hi22 (fun K hK => ?hstep22) AllReadyH.nil
  case hi22 => (simp only [List.getElem?_toArray, List.getElem?_cons_succ, List.getElem?_cons_zero]; try rfl)
  go_simp
  (skip)
  refine hK.out _ _ ?_ (fun hHeld => ?_)
  · exact ⟨(World.cell?_setCell_other _ _ _ _ (by simp)).trans hHeld.1, (World.cell?_setCell_other _ _ _ _ (by simp)).trans hHeld.2⟩
  clear hK K
  (try simp only [Act.put, List.setIfInBounds_toArray, List.set_cons_zero, List.set_cons_succ])
  refine wpAnyH_done (by kernel_rfl) ?_ _
  refine NoPanic.normal ?_
  (skip)
  have G := (Gro.set b b 1 wx (.int .i64 p1)).trans (Gro.set b b 2 _ (.int .i64 e1))
  have hR4 := hx.next ((hx.rr.set1 p1).set2 e1) G
  have own4 := G.own ownx (show b < w3.heap.size by rw [n3]; omega)
  have z3 : w.heap.size + 3 ≤ w3.drew.heap.size := by show w.heap.size + 3 ≤ w3.heap.size; omega
  clear hHeld C1 F1 C2 F2 bcur hbx ownx Cq C0 hR hcall
  generalize (wx.setCell _ _).setCell _ _ = w4 at hR4 own4 ⊢
  clear hx G
  obtain ⟨A1, c1, rfl, hc1, hm1, _⟩ := own_shape own4
  have RD := own_rd own4
  have CV := conv_name w4 RD c1
  clear own4 RD
  replace CV := hid CV
  have hg := hid hg1
  clear hg1
  have C2 := (hR4.rr.row.2 2 _ rfl).1
  have Cq := hR4.cq 0 _ rfl
  replace hR4 := hid hR4
  by_cases hz : e1 = 0
  case neg =>
    have hne : (e1 != 0) = true := by simpa using hz
    have hnm : nm = [] := by
      rcases bytesR_cases l p0 with ⟨e, he, hh⟩ | ⟨j, n, _, _, _, _, _, h3⟩
      · rw [hh] at hg; have := congrArg Prod.fst hg.out; exact this.symm
      · rw [h3] at hg; have := congrArg (fun z => z.2.2) hg.out; exact absurd this.symm hz
    subst hnm
    obtain ⟨f1, f2, f3, f4⟩ := hR4.out.fin rfl
    replace f1 := hid f1
    replace f2 := hid f2
    replace f4 := hid f4
    clear CV
    go_wp2_with (first | (refine wpList_load_lit (w.heap.size + 2) [.string ⟨#[]⟩, .slice none 0 0, .int .i64 0, .int .i64 0, .slice none 0 0] ?_ ?_ Tryd.underlying46 rfl (by kernel_rfl) ?_; (· rfl); (· exact hR4.out.r2)) | (refine wpList_store_lit (w.heap.size + 1) [.string ⟨#[]⟩, .slice none 0 0, .int .i64 0, .int .i64 0, .slice none 0 0] [.string ⟨#[]⟩, .slice none 0 0, .int .i64 0, .int .i64 0, .slice none 0 0] ?_ ?_ ?_ rfl (by kernel_rfl) rfl ?_; (· rfl); (· rfl); (· exact hR4.out.r1)))
    replace f1 := f1.out
    refine bodyPost_ret (results_cell1 (k := 2) (t := 46) Tryd.results31 rfl f1 Tryd.underlying46 rfl (by kernel_rfl)) rfl ?_
    exact ⟨⟨[], none, 0, [], 0, 0, none, 0, []⟩, rfl, by rw [restC_err l (p1, e1) hz]; rfl, ⟨OwnEls.nil _ _ _ _, OwnEls.nil _ _ _ _⟩, by rw [restC_err l (p1, e1) hz]; exact f2.out, f4.out⟩
  case pos =>
    subst hz
    have hne : ((0 : Int) != 0) = false := rfl
    replace hg := hg.out
    clear hg
    replace hR4 := hR4.out
    replace CV := CV.out
    have CC := hR4.c2 0 _ rfl
    have F := hR4.f2 0 _ rfl
    replace hR4 := hid (hR4.set 0 (by simp) (.string (str nm)))
    go_upto_region 7 with fail
    clear CC F CV C2 Cq
    replace hR4 := hR4.out
    generalize World.setCell _ _ _ = w5 at hR4 ⊢
    simp only [List.set_cons_zero] at hR4
    -- the parameters
    obtain ⟨ps, s2, h2⟩ : ∃ x s, cnt 16 111 (nx numR 0) l (p1, 0) = (x, s) := ⟨_, _, rfl⟩
    have hqb : w.heap.size ≠ b := by omega
    have K := list_ty hR4.rr (hR4.cq 0 _ rfl) hqb
    rw [h2] at K
    have Cq := hR4.cq 0 _ rfl
    replace hR4 := hid hR4
    replace K := hid K
    go_wp2_with fail
    refine K.out.mono ?_
    rintro e w6 ⟨v2, xs2, rfl, hx2, hl2, own2, h6, G6⟩
    replace hx2 : ps = xs2 := hx2.symm
    subst hx2
    clear K Cq
    replace hR4 := hR4.out
    have z6 := hR4.sz
    replace hR4 := hR4.next h6 G6
    obtain ⟨A2, c2, rfl, hc2, hm2, _⟩ := own_shape own2.1
    replace hR4 := hR4.more (own2.mono z6) (fun k W1 W2 hk hG _ hx => keep_elsc (fun _ => rfl) (Nat.le_refl _) hk hG hx)
    have CC := hR4.c2 1 _ rfl
    have F := hR4.f2 1 _ rfl
    replace hR4 := hid (hR4.set 1 (by simp) (.slice A2 ps.length c2))
    clear own2 h6 G6
    go_upto_region 8 with fail
    clear CC F
    replace hR4 := hR4.out
    generalize World.setCell _ _ _ = w7 at hR4 ⊢
    simp only [List.set_cons_zero, List.set_cons_succ] at hR4
    -- a number
    obtain ⟨x3, s3, h3⟩ : ∃ x s, nx numR 0 l s2 = (x, s) := ⟨_, _, rfl⟩
    have K := cnum_any hR4.rr
    rw [h3] at K
    have Cq := hR4.cq 0 _ rfl
    replace hR4 := hid hR4
    replace K := hid K
    go_wp2_with fail
    refine K.out.mono ?_
    rintro e w6 ⟨rfl, h6, G6⟩
    clear K Cq
    replace hR4 := hR4.out.next h6 G6
    have CC := hR4.c2 2 _ rfl
    have F := hR4.f2 2 _ rfl
    replace hR4 := hid (hR4.set 2 (by simp) (.int .i64 x3))
    clear h6 G6
    go_upto_region 9 with fail
    clear CC F
    replace hR4 := hR4.out
    generalize World.setCell _ _ _ = w7 at hR4 ⊢
    simp only [List.set_cons_zero, List.set_cons_succ] at hR4
    -- a number
    obtain ⟨x4, s4, h4⟩ : ∃ x s, nx numR 0 l s3 = (x, s) := ⟨_, _, rfl⟩
    have K := cnum_any hR4.rr
    rw [h4] at K
    have Cq := hR4.cq 0 _ rfl
    replace hR4 := hid hR4
    replace K := hid K
    go_wp2_with fail
    refine K.out.mono ?_
    rintro e w6 ⟨rfl, h6, G6⟩
    clear K Cq
    replace hR4 := hR4.out.next h6 G6
    have CC := hR4.c2 3 _ rfl
    have F := hR4.f2 3 _ rfl
    replace hR4 := hid (hR4.set 3 (by simp) (.int .i64 x4))
    clear h6 G6
    go_upto_region 10 with fail
    clear CC F
    replace hR4 := hR4.out
    generalize World.setCell _ _ _ = w7 at hR4 ⊢
    simp only [List.set_cons_zero, List.set_cons_succ] at hR4
    -- the instructions
    obtain ⟨is, s5, h5⟩ : ∃ x s, cnt 16384 111 getI l s4 = (x, s) := ⟨_, _, rfl⟩
    have K := list_ins hR4.rr (hR4.cq 0 _ rfl) hqb
    rw [h5] at K
    have Cq := hR4.cq 0 _ rfl
    replace hR4 := hid hR4
    replace K := hid K
    go_wp2_with fail
    refine K.out.mono ?_
    rintro e w6 ⟨v5, xs5, rfl, hx5, hl5, own5, h6, G6⟩
    replace hx5 : is = xs5 := hx5.symm
    subst hx5
    clear K Cq
    replace hR4 := hR4.out
    have z6 := hR4.sz
    replace hR4 := hR4.next h6 G6
    obtain ⟨A5, c5, rfl, hc5, hm5, _⟩ := own_shape own5.1
    replace hR4 := hR4.more (own5.mono z6) (fun k W1 W2 hk hG _ hx => keep_elsc (fun _ => rfl) (Nat.le_refl _) hk hG hx)
    have CC := hR4.c2 4 _ rfl
    have F := hR4.f2 4 _ rfl
    replace hR4 := hid (hR4.set 4 (by simp) (.slice A5 is.length c5))
    clear own5 h6 G6
    go_upto_region 11 with fail
    clear CC F
    replace hR4 := hR4.out
    generalize World.setCell _ _ _ = w8 at hR4 ⊢
    simp only [List.set_cons_zero, List.set_cons_succ] at hR4
    have hrc := hid (restC_is l h2 h3 h4 h5)
    obtain ⟨f1, f2, f3, f4⟩ := hR4.fin rfl
    replace f1 := hid f1
    replace f2 := hid f2
    replace f3 := hid f3
    replace f4 := hid f4
    replace hR4 := hid hR4
    replace h2 := hid h2
    replace h3 := hid h3
    replace h4 := hid h4
    replace h5 := hid h5
    go_wp2_with (first | (refine wpList_load_lit (w.heap.size + 2) [.string (str nm), .slice A2 ps.length c2, .int .i64 x3, .int .i64 x4, .slice A5 is.length c5] ?_ ?_ Tryd.underlying46 rfl (by kernel_rfl) ?_; (· rfl); (· exact hR4.out.r2)) | (refine wpList_store_lit (w.heap.size + 1) [.string (str nm), .slice A2 ps.length c2, .int .i64 x3, .int .i64 x4, .slice A5 is.length c5] [.string ⟨#[]⟩, .slice none 0 0, .int .i64 0, .int .i64 0, .slice none 0 0] ?_ ?_ ?_ rfl (by kernel_rfl) rfl ?_; (· rfl); (· rfl); (· exact hR4.out.r1)))
    replace f1 := f1.out
    refine bodyPost_ret (results_cell1 (k := 2) (t := 46) Tryd.results31 rfl f1 Tryd.underlying46 rfl (by kernel_rfl)) rfl ?_
    exact ⟨⟨nm, A2, c2, ps, x3, x4, A5, c5, is⟩, rfl, by rw [hrc.out]; rfl, ⟨f3.out.1.2.mono (by omega), f3.out.2.mono (by omega)⟩, by rw [hrc.out]; exact f2.out, f4.out⟩
end Go.Proofs.YtnkocbdbfkhgmaaDoor
