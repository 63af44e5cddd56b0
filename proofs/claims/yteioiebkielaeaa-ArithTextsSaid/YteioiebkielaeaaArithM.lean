import Derived.Test.YteioiebkielaeaaArithK
import Derived.Test.YteioiebkielaeaaApp
namespace Go.Proofs.Yteioiebkielaeaa
open Go.RowKit Go.Cov Go.Lib
theorem text_n {A : Option Addr} {c : Nat} {l : List UInt8} {w : World} (n : Nat) (hn : l.length = n) (h : Rd w A (l.map byt)) (hl : n ≤ 140737488351236) :
    Calls Try.prog 13 #[.slice A n c] w fun e w' => ∃ B d, e = .returned (.agg #[.int .i64 3, .int .i64 0, .slice B n d]) ∧ w'.ownsRow w.heap.size 5 1 (.slice B n d) n (l.map byt) ∧ Below w.heap.size w w' := by
  subst hn
  exact text_any h hl
set_option maxRecDepth 100000 in
set_option maxHeartbeats 2000000 in
theorem two_text_no {A B : Option Addr} {c d : Nat} (n m : Nat) (w : World) (h : 256 < n ∨ 256 < n + m) (hn : n ≤ 140737488351236) (hm : m ≤ 140737488351236) :
    Calls Try.prog 10 #[.string ⟨#[43]⟩, .agg #[.int .i64 3, .int .i64 0, .slice A n c], .agg #[.int .i64 3, .int .i64 0, .slice B m d]] w fun e w' => e = .returned (.tuple #[.agg #[.int .i64 0, .int .i64 0, .slice none 0 0], .int .i64 6]) ∧ Below w.heap.size w w' := by
  have q1 := n43f
  have q2 := n32n
  have q3 := n44n
  have q4 := n45n
  have e1 : IntKind.i64.wrap ((n : Int) + m) = (n : Int) + m := wrap_of _ (by omega) (by omega)
  by_cases h1 : 256 < n
  · have i1 : (256 : Int) < n := by omega
    clear h
    go_enter Try.func10, Try.ntmps10
    go_wp2_with fail
    refine (of_plus _).mono ?_
    rintro e w1 ⟨rfl, hb1⟩
    have hB := boxes3_below hb1
    obtain ⟨b1, b2, b3, b4, hz3⟩ := boxes3 hb1
    have c10 := b1 0 _ rfl
    have c12 := b1 2 _ rfl
    have c20 := b2 0 _ rfl
    have c22 := b2 2 _ rfl
    have c30 := b3 0 _ rfl
    have c31 := b3 1 _ rfl
    have c32 := b3 2 _ rfl
    have f30 := b4 0
    have f31 := b4 1
    have f32 := b4 2
    have hz2 : w.heap.size + 1 < w1.heap.size := by omega
    have hz1 : w.heap.size < w1.heap.size := by omega
    clear b1 b2 b3 b4
    go_wp2_with fail
    obtain ⟨s0, s1, s2⟩ := set3_cells c30 c31 c32 (.int .i64 0) (.int .i64 0) (.slice none 0 0)
    have t0 := fun o => cell_on (below_alloc _ o) s0
    have t1 := fun o => cell_on (below_alloc _ o) s1
    have t2 := fun o => cell_on (below_alloc _ o) s2
    refine bodyPost_ret (v := .tuple #[.agg #[.int .i64 0, .int .i64 0, .slice none 0 0], .int .i64 6]) ?_ rfl ⟨rfl, ?_⟩
    · simp [results, Try.results10, go_sem, t0, t1, t2]
    · exact below_step (below_set3 hB (by omega)) (below_alloc _ _)
  · have i1 : ¬ (256 : Int) < n := by omega
    have i2 : (256 : Int) < (n : Int) + m := by omega
    clear h
    go_enter Try.func10, Try.ntmps10
    go_wp2_with fail
    refine (of_plus _).mono ?_
    rintro e w1 ⟨rfl, hb1⟩
    have hB := boxes3_below hb1
    obtain ⟨b1, b2, b3, b4, hz3⟩ := boxes3 hb1
    have c10 := b1 0 _ rfl
    have c12 := b1 2 _ rfl
    have c20 := b2 0 _ rfl
    have c22 := b2 2 _ rfl
    have c30 := b3 0 _ rfl
    have c31 := b3 1 _ rfl
    have c32 := b3 2 _ rfl
    have f30 := b4 0
    have f31 := b4 1
    have f32 := b4 2
    have hz2 : w.heap.size + 1 < w1.heap.size := by omega
    have hz1 : w.heap.size < w1.heap.size := by omega
    clear b1 b2 b3 b4
    go_wp2_with fail
    obtain ⟨s0, s1, s2⟩ := set3_cells c30 c31 c32 (.int .i64 0) (.int .i64 0) (.slice none 0 0)
    have t0 := fun o => cell_on (below_alloc _ o) s0
    have t1 := fun o => cell_on (below_alloc _ o) s1
    have t2 := fun o => cell_on (below_alloc _ o) s2
    refine bodyPost_ret (v := .tuple #[.agg #[.int .i64 0, .int .i64 0, .slice none 0 0], .int .i64 6]) ?_ rfl ⟨rfl, ?_⟩
    · simp [results, Try.results10, go_sem, t0, t1, t2]
    · exact below_step (below_set3 hB (by omega)) (below_alloc _ _)
set_option maxRecDepth 100000 in
set_option maxHeartbeats 2000000 in
theorem two_text {A B : Option Addr} {c d : Nat} {l1 l2 : List UInt8} (w : World) (hA : Rd w A (l1.map byt)) (hB2 : Rd w B (l2.map byt)) (h : l1.length + l2.length ≤ 256) :
    Calls Try.prog 10 #[.string ⟨#[43]⟩, .agg #[.int .i64 3, .int .i64 0, .slice A l1.length c], .agg #[.int .i64 3, .int .i64 0, .slice B l2.length d]] w fun e w' => ∃ D k, e = .returned (.tuple #[.agg #[.int .i64 3, .int .i64 0, .slice D (l1.length + l2.length) k], .int .i64 0]) ∧ w'.ownsRow w.heap.size 5 1 (.slice D (l1.length + l2.length) k) (l1.length + l2.length) ((l1 ++ l2).map byt) ∧ Below w.heap.size w w' := by
  have q1 := n43f
  have q2 := n32n
  have q3 := n44n
  have q4 := n45n
  have e1 : IntKind.i64.wrap ((l1.length : Int) + l2.length) = (l1.length : Int) + l2.length := wrap_of _ (by omega) (by omega)
  have i1 : ¬ (256 : Int) < l1.length := by omega
  have i2 : ¬ (256 : Int) < (l1.length : Int) + l2.length := by omega
  have KC := hid (fun W (hW : Rd W A (l1.map byt)) => clone_any (c := c) hW (by omega))
  go_enter Try.func10, Try.ntmps10
  go_wp2_with fail
  refine (of_plus _).mono ?_
  rintro e w1 ⟨rfl, hb1⟩
  have hB := boxes3_below hb1
  obtain ⟨b1, b2, b3, b4, hz3⟩ := boxes3 hb1
  have c10 := b1 0 _ rfl
  have c12 := b1 2 _ rfl
  have c20 := b2 0 _ rfl
  have c22 := b2 2 _ rfl
  have c30 := b3 0 _ rfl
  have c31 := b3 1 _ rfl
  have c32 := b3 2 _ rfl
  have f30 := b4 0
  have f31 := b4 1
  have f32 := b4 2
  have hz2 : w.heap.size + 1 < w1.heap.size := by omega
  have hz1 : w.heap.size < w1.heap.size := by omega
  clear b1 b2 b3 b4
  have hA := hA.below hB
  have hB2 := hB2.below hB
  go_upto_region 18 with fail
  obtain ⟨va, hva⟩ : ∃ va, w1.alloc (.cells #[.func (.func 23) #[] #[], .nilFunc, .nilFunc, .nilFunc] 47) = va := ⟨_, rfl⟩
  have s1 := below_alloc w1 (.cells #[.func (.func 23) #[] #[], .nilFunc, .nilFunc, .nilFunc] 47)
  rw [hva] at s1 ⊢
  clear hva
  have hA := hA.below s1
  have hB2 := hB2.below s1
  have c12q := fun W (hW : Below (w.heap.size + 1 + 1) va W) => (hW.cell (p := ⟨w.heap.size, 2, none⟩) (show w.heap.size < w.heap.size + 1 + 1 by omega)).trans (cell_on s1 c12)
  have c22q := fun W (hW : Below (w.heap.size + 1 + 1) va W) => (hW.cell (p := ⟨w.heap.size + 1, 2, none⟩) (show w.heap.size + 1 < w.heap.size + 1 + 1 by omega)).trans (cell_on s1 c22)
  have n0 : va.drew.cell? _ = _ := cell_on s1 c30
  have n1 : va.drew.cell? _ = _ := cell_on s1 c31
  have n2 : va.drew.cell? _ = _ := cell_on s1 c32
  have f0 : va.drew.frozen? _ = _ := froz_on s1 hz3 f30
  have f1 : va.drew.frozen? _ = _ := froz_on s1 hz3 f31
  have f2 : va.drew.frozen? _ = _ := froz_on s1 hz3 f32
  have nz : w.heap.size + 1 + 1 < va.heap.size := Nat.lt_of_lt_of_le hz3 s1.size
  have nz0 : w.heap.size + 1 + 1 < va.drew.heap.size := nz
  have bva := below_step hB s1
  have hA : Rd va.drew A (l1.map byt) := hA
  have hB2 : Rd va.drew B (l2.map byt) := hB2
  clear hB hb1 c12 c22 c30 c31 c32 f30 f31 f32 s1
  refine wp_region_noPanic ?_
  refine wp_region_held_drew (S := (fun W => Below (w.heap.size + 1 + 1) va W)) (by kernel_rfl) ?_ (fun hHeld => ?_)
  · exact (Below.refl _ _).drew
  refine wpAnyH_take (i := 0) (oi := ?oi1) (v := ?v1) ?hi1 (by kernel_rfl) (by kernel_rfl) (by kernel_rfl) ?hQ1 ?hy1 (by assumption) ?hrest1
  case hi1 => (simp only [List.getElem?_toArray, List.getElem?_cons_zero]; try rfl)
  case hQ1 => exact fun _ _ _ h => h
  case hy1 =>
    refine Or.inl ⟨by rfl, ?_⟩
    (intro wq hSw; (try dsimp only at hSw); go_simp; try with_reducible rfl)
  (try simp only [Act.put, List.setIfInBounds_toArray, List.set_cons_zero, List.set_cons_succ])
  refine wpAnyH_take (i := 1) (oi := ?oi2) (v := ?v2) ?hi2 (by kernel_rfl) (by kernel_rfl) (by kernel_rfl) ?hQ2 ?hy2 (by assumption) ?hrest2
  case hi2 => (simp only [List.getElem?_toArray, List.getElem?_cons_succ, List.getElem?_cons_zero]; try rfl)
  case hQ2 => exact fun _ _ _ h => h
  case hy2 =>
    refine Or.inl ⟨by rfl, ?_⟩
    (intro wq hSw; (try dsimp only at hSw); go_simp; try with_reducible rfl)
  (try simp only [Act.put, List.setIfInBounds_toArray, List.set_cons_zero, List.set_cons_succ])
  refine wpAnyH_take (i := 3) (oi := ?oi3) (v := ?v3) ?hi3 (by kernel_rfl) (by kernel_rfl) (by kernel_rfl) ?hQ3 ?hy3 (by assumption) ?hrest3
  case hi3 => (simp only [List.getElem?_toArray, List.getElem?_cons_succ, List.getElem?_cons_zero]; try rfl)
  case hQ3 => exact fun _ _ _ h => h
  case hy3 =>
    refine Or.inl ⟨by rfl, ?_⟩
    (intro wq hSw; (try dsimp only at hSw); go_simp; try with_reducible rfl)
  (try simp only [Act.put, List.setIfInBounds_toArray, List.set_cons_zero, List.set_cons_succ])
  refine wpAnyH_take (i := 4) (oi := ?oi4) (v := ?v4) ?hi4 (by kernel_rfl) (by kernel_rfl) (by kernel_rfl) ?hQ4 ?hy4 (by assumption) ?hrest4
  case hi4 => (simp only [List.getElem?_toArray, List.getElem?_cons_succ, List.getElem?_cons_zero]; try rfl)
  case hQ4 => exact fun _ _ _ h => h
  case hy4 =>
    refine Or.inl ⟨by rfl, ?_⟩
    (intro wq hSw; (try dsimp only at hSw); go_simp; try with_reducible rfl)
  (try simp only [Act.put, List.setIfInBounds_toArray, List.set_cons_zero, List.set_cons_succ])
  refine wpAnyH_ready (rs := [2]) (by kernel_rfl) (by simp) ?_
  refine AllReadyH.cons (o := ?oi5) ?hi5 (fun K hK => ?hstep5) AllReadyH.nil
  case hi5 => (simp only [List.getElem?_toArray, List.getElem?_cons_succ, List.getElem?_cons_zero]; try rfl)
  go_simp
  (refine (KC.out _ hA).mono ?_; rintro e wx ⟨vx, rfl, own2, hbx⟩; have n0 := cell_on hbx n0; have n1 := cell_on hbx n1; have n2 := cell_on hbx n2; have f0 := froz_on hbx nz0 f0; have f1 := froz_on hbx nz0 f1; have f2 := froz_on hbx nz0 f2; have nz1 := Nat.lt_of_lt_of_le nz0 hbx.size; have hB2 := hB2.below hbx)
  refine hK.out _ _ ?_ (fun hHeld => ?_)
  · exact hHeld.trans (hbx.mono (by omega))
  clear hK K
  (try simp only [Act.put, List.setIfInBounds_toArray, List.set_cons_zero, List.set_cons_succ])
  refine wpAnyH_ready (rs := [5]) (by kernel_rfl) (by simp) ?_
  refine AllReadyH.cons (o := ?oi6) ?hi6 (fun K hK => ?hstep6) AllReadyH.nil
  case hi6 => (simp only [List.getElem?_toArray, List.getElem?_cons_succ, List.getElem?_cons_zero]; try rfl)
  (refine oper_app rfl (.tmp 120) (.tmp 122) 24 rfl va.drew.heap.size 5 Try.underlying24 infoB rfl (by decide) vx l1.length _ rfl own2 B l2.length d (l2.map byt) rfl (by simp) hB2 (byt_one l2) (by omega) (by omega) hbx.size ?_; intro v5 w5 own5 hg5; have hby : Below va.drew.heap.size wx w5 := (Below.refl _ _).grown hg5 hbx.size (fun k hk => (own_lt own2 hk).1); have n0 := (hby.cell (p := ⟨w.heap.size + 1 + 1, 0, none⟩) nz0).trans n0; have n1 := (hby.cell (p := ⟨w.heap.size + 1 + 1, 1, none⟩) nz0).trans n1; have n2 := (hby.cell (p := ⟨w.heap.size + 1 + 1, 2, none⟩) nz0).trans n2; have f0 := (hby.frozen (p := ⟨w.heap.size + 1 + 1, 0, none⟩) nz0).trans f0; have f1 := (hby.frozen (p := ⟨w.heap.size + 1 + 1, 1, none⟩) nz0).trans f1; have f2 := (hby.frozen (p := ⟨w.heap.size + 1 + 1, 2, none⟩) nz0).trans f2; have nz2 := Nat.lt_of_lt_of_le nz1 hby.size; obtain ⟨D5, d5, hv5, _⟩ := own_shape own5; subst hv5; have rd5 := own_rd own5; rw [← List.map_append] at rd5)
  refine hK.out _ _ ?_ (fun hHeld => ?_)
  · exact hHeld.trans (hby.mono (by omega))
  clear hK K
  (try simp only [Act.put, List.setIfInBounds_toArray, List.set_cons_zero, List.set_cons_succ])
  refine wpAnyH_ready (rs := [6]) (by kernel_rfl) (by simp) ?_
  refine AllReadyH.cons (o := ?oi7) ?hi7 (fun K hK => ?hstep7) AllReadyH.nil
  case hi7 => (simp only [List.getElem?_toArray, List.getElem?_cons_succ, List.getElem?_cons_zero]; try rfl)
  go_simp
  (refine (text_n (l := l1 ++ l2) _ (by simp) rd5 (by omega)).mono ?_; rintro e w6 ⟨D6, d6, rfl, own6, hb6⟩; have n0 := cell_on hb6 n0; have n1 := cell_on hb6 n1; have n2 := cell_on hb6 n2; have f0 := froz_on hb6 nz2 f0; have f1 := froz_on hb6 nz2 f1; have f2 := froz_on hb6 nz2 f2)
  refine hK.out _ _ ?_ (fun hHeld => ?_)
  · exact hHeld.trans (hb6.mono (by omega))
  clear hK K
  (try simp only [Act.put, List.setIfInBounds_toArray, List.set_cons_zero, List.set_cons_succ])
  refine wpAnyH_ready (rs := [7]) (by kernel_rfl) (by simp) ?_
  refine AllReadyH.cons (o := ?oi8) ?hi8 (fun K hK => ?hstep8) AllReadyH.nil
  case hi8 => (simp only [List.getElem?_toArray, List.getElem?_cons_succ, List.getElem?_cons_zero]; try rfl)
  go_simp
  (obtain ⟨z0, z1, z2⟩ := set3_cells n0 n1 n2 (.int .i64 3) (.int .i64 0) (.slice D6 (l1.length + l2.length) d6))
  refine hK.out _ _ ?_ (fun hHeld => ?_)
  · exact ((hHeld.setCell (p := ⟨w.heap.size + 1 + 1, 0, none⟩) (Nat.le_refl _) _).setCell (p := ⟨w.heap.size + 1 + 1, 1, none⟩) (Nat.le_refl _) _).setCell (p := ⟨w.heap.size + 1 + 1, 2, none⟩) (Nat.le_refl _) _
  clear hK K
  (try simp only [Act.put, List.setIfInBounds_toArray, List.set_cons_zero, List.set_cons_succ])
  refine wpAnyH_take (i := 8) (oi := ?oi9) (v := ?v9) ?hi9 (by kernel_rfl) (by kernel_rfl) (by kernel_rfl) ?hQ9 ?hy9 (by assumption) ?hrest9
  case hi9 => (simp only [List.getElem?_toArray, List.getElem?_cons_succ, List.getElem?_cons_zero]; try rfl)
  case hQ9 => exact fun _ _ _ h => h
  case hy9 =>
    refine Or.inl ⟨by rfl, ?_⟩
    (intro wq hSw; (try dsimp only at hSw); go_simp; try with_reducible rfl)
  (try simp only [Act.put, List.setIfInBounds_toArray, List.set_cons_zero, List.set_cons_succ])
  refine wpAnyH_done (by kernel_rfl) ?_ _
  refine NoPanic.normal ?_
  go_wp2_with fail
  refine bodyPost_ret (v := .tuple #[.agg #[.int .i64 3, .int .i64 0, .slice D6 (l1.length + l2.length) d6], .int .i64 0]) ?_ rfl ⟨_, _, rfl, ?_, ?_⟩
  · simp [results, Try.results10, go_sem, z0, z1, z2]
  · exact own_mono (own_keep own6 (grown_set3 w6 (w.heap.size + 1 + 1) _ _ _) (fun g hg => by cases hg; exact nz2)) (by omega)
  · exact (bva.mono (Nat.le_refl _)).trans (hHeld.mono (by omega))
end Go.Proofs.Yteioiebkielaeaa
