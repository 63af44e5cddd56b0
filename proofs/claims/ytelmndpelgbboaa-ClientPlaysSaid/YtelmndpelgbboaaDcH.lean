import Derived.Test.YtelmndpelgbboaaDcG
namespace Go.Proofs.Ytelmndpelgbboaa
open Go.RowKit Go.Conc Go.Cov Go.Lib
def Rq.data (r : Rq) : Int × Int × Int × List UInt8 := (r.q, r.n, r.c, r.body)
set_option maxRecDepth 100000 in
set_option maxHeartbeats 6400000 in
theorem same_rqs {w : World} {A B : Option Addr} {c d n : Nat} {rs ts : List Rq} (hA : Els rqEl w A rs) (hB : Els rqEl w B ts) (hn : rs.length = n) (hd : rs.map Rq.data = ts.map Rq.data) (hn9 : n ≤ 100) :
    Calls Try.prog 17 #[.slice A n c, .slice B n d] w fun e w' => e = .returned (.bool true) ∧ Below w.heap.size w w' := by
  have hn2 : ts.length = n := by have := congrArg List.length hd; rw [List.length_map, List.length_map] at this; omega
  have HN := hid hn
  have HN2 := hid hn2
  have HD := hid hd
  clear hn hn2 hd
  go_enter Try.func17, Try.ntmps17
  go_wp2_with fail
  go_loopw [5] (fun i W => ∃ j : Nat, j ≤ n ∧ i = .int .i64 j ∧ Below w.heap.size w W) (fun i _ => n - (RowKit.intOf i).toNat)
  case atStart => exact ⟨0, by omega, rfl, Below.refl _ _⟩
  case round =>
    obtain ⟨j, hj, rfl, hb⟩ := hrel
    by_cases hlt : j < n
    · have i1 : (j : Int) < n := by omega
      have hr : j < rs.length := by rw [HN.out]; exact hlt
      have ht : j < ts.length := by rw [HN2.out]; exact hlt
      have hdj : rs[j].data = ts[j].data := by
        have h1 := congrArg (fun l => l[j]?) HD.out
        simpa [List.getElem?_eq_getElem hr, List.getElem?_eq_getElem ht] using h1
      obtain ⟨ad, eA, hx, hp⟩ := (hA.below hb).at' j hr
      obtain ⟨bd, eB, hy, hq⟩ := (hB.below hb).at' j ht
      subst eA
      subst eB
      have rx := sl_rd (hp (rs[j].val, rs[j].body) (by simp [rqEl]))
      have ry := sl_rd (hq (ts[j].val, ts[j].body) (by simp [rqEl]))
      clear hp hq
      generalize rs[j] = r at hx rx hdj
      generalize ts[j] = t at hy ry hdj
      obtain ⟨q, nn, cc, rA, rk, b⟩ := r
      obtain ⟨q2, nn2, cc2, tA, tk, b2⟩ := t
      unfold Rq.data at hdj
      simp only [Prod.mk.injEq] at hdj
      obtain ⟨rfl, rfl, rfl, rfl⟩ := hdj
      have x0 : wr.cell? (ad.add (j * 15)) = some (.int .i64 1) := by have := hx 0 _ rfl; rwa [add_zero'] at this
      have y0 : wr.cell? (bd.add (j * 15)) = some (.int .i64 1) := by have := hy 0 _ rfl; rwa [add_zero'] at this
      have x1 : wr.cell? ⟨(ad.add (j * 15)).block, (ad.add (j * 15)).off + 1, none⟩ = some (.int .i64 (-1)) := hx 1 _ rfl
      have y1 : wr.cell? ⟨(bd.add (j * 15)).block, (bd.add (j * 15)).off + 1, none⟩ = some (.int .i64 (-1)) := hy 1 _ rfl
      have x2 : wr.cell? ⟨(ad.add (j * 15)).block, (ad.add (j * 15)).off + 2, none⟩ = some (.int .i64 q) := hx 2 _ rfl
      have y2 : wr.cell? ⟨(bd.add (j * 15)).block, (bd.add (j * 15)).off + 2, none⟩ = some (.int .i64 q) := hy 2 _ rfl
      have x3 : wr.cell? ⟨(ad.add (j * 15)).block, (ad.add (j * 15)).off + 3, none⟩ = some (.int .i64 0) := hx 3 _ rfl
      have y3 : wr.cell? ⟨(bd.add (j * 15)).block, (bd.add (j * 15)).off + 3, none⟩ = some (.int .i64 0) := hy 3 _ rfl
      have x4 : wr.cell? ⟨(ad.add (j * 15)).block, (ad.add (j * 15)).off + 4, none⟩ = some (.int .i64 0) := hx 4 _ rfl
      have y4 : wr.cell? ⟨(bd.add (j * 15)).block, (bd.add (j * 15)).off + 4, none⟩ = some (.int .i64 0) := hy 4 _ rfl
      have x5 : wr.cell? ⟨(ad.add (j * 15)).block, (ad.add (j * 15)).off + 5, none⟩ = some (.int .i64 0) := hx 5 _ rfl
      have y5 : wr.cell? ⟨(bd.add (j * 15)).block, (bd.add (j * 15)).off + 5, none⟩ = some (.int .i64 0) := hy 5 _ rfl
      have x6 : wr.cell? ⟨(ad.add (j * 15)).block, (ad.add (j * 15)).off + 6, none⟩ = some (.int .i64 0) := hx 6 _ rfl
      have y6 : wr.cell? ⟨(bd.add (j * 15)).block, (bd.add (j * 15)).off + 6, none⟩ = some (.int .i64 0) := hy 6 _ rfl
      have x7 : wr.cell? ⟨(ad.add (j * 15)).block, (ad.add (j * 15)).off + 7, none⟩ = some (.int .i64 0) := hx 7 _ rfl
      have y7 : wr.cell? ⟨(bd.add (j * 15)).block, (bd.add (j * 15)).off + 7, none⟩ = some (.int .i64 0) := hy 7 _ rfl
      have x8 : wr.cell? ⟨(ad.add (j * 15)).block, (ad.add (j * 15)).off + 8, none⟩ = some (.int .i64 nn) := hx 8 _ rfl
      have y8 : wr.cell? ⟨(bd.add (j * 15)).block, (bd.add (j * 15)).off + 8, none⟩ = some (.int .i64 nn) := hy 8 _ rfl
      have x9 : wr.cell? ⟨(ad.add (j * 15)).block, (ad.add (j * 15)).off + 9, none⟩ = some (.int .i64 cc) := hx 9 _ rfl
      have y9 : wr.cell? ⟨(bd.add (j * 15)).block, (bd.add (j * 15)).off + 9, none⟩ = some (.int .i64 cc) := hy 9 _ rfl
      have x10 : wr.cell? ⟨(ad.add (j * 15)).block, (ad.add (j * 15)).off + 10, none⟩ = some (.slice rA b.length rk) := hx 10 _ rfl
      have y10 : wr.cell? ⟨(bd.add (j * 15)).block, (bd.add (j * 15)).off + 10, none⟩ = some (.slice tA b.length tk) := hy 10 _ rfl
      have x11 : wr.cell? ⟨(ad.add (j * 15)).block, (ad.add (j * 15)).off + 11, none⟩ = some (.bool false) := hx 11 _ rfl
      have y11 : wr.cell? ⟨(bd.add (j * 15)).block, (bd.add (j * 15)).off + 11, none⟩ = some (.bool false) := hy 11 _ rfl
      have x12 : wr.cell? ⟨(ad.add (j * 15)).block, (ad.add (j * 15)).off + 12, none⟩ = some (.int .i64 0) := hx 12 _ rfl
      have y12 : wr.cell? ⟨(bd.add (j * 15)).block, (bd.add (j * 15)).off + 12, none⟩ = some (.int .i64 0) := hy 12 _ rfl
      have x13 : wr.cell? ⟨(ad.add (j * 15)).block, (ad.add (j * 15)).off + 13, none⟩ = some (.slice none 0 0) := hx 13 _ rfl
      have y13 : wr.cell? ⟨(bd.add (j * 15)).block, (bd.add (j * 15)).off + 13, none⟩ = some (.slice none 0 0) := hy 13 _ rfl
      have x14 : wr.cell? ⟨(ad.add (j * 15)).block, (ad.add (j * 15)).off + 14, none⟩ = some (.slice none 0 0) := hx 14 _ rfl
      have y14 : wr.cell? ⟨(bd.add (j * 15)).block, (bd.add (j * 15)).off + 14, none⟩ = some (.slice none 0 0) := hy 14 _ rfl
      have kx0 := fun W (hW : Below wr.heap.size wr W) => cell_on hW x0
      have ky0 := fun W (hW : Below wr.heap.size wr W) => cell_on hW y0
      have kx1 := fun W (hW : Below wr.heap.size wr W) => cell_on hW x1
      have ky1 := fun W (hW : Below wr.heap.size wr W) => cell_on hW y1
      have kx2 := fun W (hW : Below wr.heap.size wr W) => cell_on hW x2
      have ky2 := fun W (hW : Below wr.heap.size wr W) => cell_on hW y2
      have kx3 := fun W (hW : Below wr.heap.size wr W) => cell_on hW x3
      have ky3 := fun W (hW : Below wr.heap.size wr W) => cell_on hW y3
      have kx4 := fun W (hW : Below wr.heap.size wr W) => cell_on hW x4
      have ky4 := fun W (hW : Below wr.heap.size wr W) => cell_on hW y4
      have kx5 := fun W (hW : Below wr.heap.size wr W) => cell_on hW x5
      have ky5 := fun W (hW : Below wr.heap.size wr W) => cell_on hW y5
      have kx6 := fun W (hW : Below wr.heap.size wr W) => cell_on hW x6
      have ky6 := fun W (hW : Below wr.heap.size wr W) => cell_on hW y6
      have kx7 := fun W (hW : Below wr.heap.size wr W) => cell_on hW x7
      have ky7 := fun W (hW : Below wr.heap.size wr W) => cell_on hW y7
      have kx8 := fun W (hW : Below wr.heap.size wr W) => cell_on hW x8
      have ky8 := fun W (hW : Below wr.heap.size wr W) => cell_on hW y8
      have kx9 := fun W (hW : Below wr.heap.size wr W) => cell_on hW x9
      have ky9 := fun W (hW : Below wr.heap.size wr W) => cell_on hW y9
      have kx10 := fun W (hW : Below wr.heap.size wr W) => cell_on hW x10
      have ky10 := fun W (hW : Below wr.heap.size wr W) => cell_on hW y10
      have kx11 := fun W (hW : Below wr.heap.size wr W) => cell_on hW x11
      have ky11 := fun W (hW : Below wr.heap.size wr W) => cell_on hW y11
      have kx12 := fun W (hW : Below wr.heap.size wr W) => cell_on hW x12
      have ky12 := fun W (hW : Below wr.heap.size wr W) => cell_on hW y12
      have kx13 := fun W (hW : Below wr.heap.size wr W) => cell_on hW x13
      have ky13 := fun W (hW : Below wr.heap.size wr W) => cell_on hW y13
      have kx14 := fun W (hW : Below wr.heap.size wr W) => cell_on hW x14
      have ky14 := fun W (hW : Below wr.heap.size wr W) => cell_on hW y14
      dsimp only at rx ry
      have KS := hid (fun W (hW : Below wr.heap.size wr W) => same_rq (k := rk) (m := tk) q nn cc (rx.below hW) (ry.below hW))
      clear hx hy rx ry
      go_upto_region 6 with fail
      clear x0 y0 x1 y1 x2 y2 x3 y3 x4 y4 x5 y5 x6 y6 x7 y7 x8 y8 x9 y9 x10 y10 x11 y11 x12 y12 x13 y13 x14 y14
      refine wp_region_noPanic ?_
      refine wp_region_held_drew (S := (fun W => Below wr.heap.size wr W)) (by kernel_rfl) ?_ (fun hHeld => ?_)
      · exact (Below.refl _ _).drew
      refine wpAnyH_take (i := 0) (oi := ?oi1) (v := ?v1) ?hi1 (by kernel_rfl) (by kernel_rfl) (by kernel_rfl) ?hQ1 ?hy1 (by assumption) ?hrest1
      case hi1 => (simp only [List.getElem?_toArray, List.getElem?_cons_zero]; try rfl)
      case hQ1 => exact fun _ _ _ h => h
      case hy1 =>
        refine Or.inl ⟨by rfl, ?_⟩
        (intro wq hSw; (try dsimp only at hSw); go_simp; try with_reducible rfl)
      (try simp only [Act.put, List.setIfInBounds_toArray, List.set_cons_zero, List.set_cons_succ])
      refine wpAnyH_take (i := 1) (oi := ?oi2) (v := ?v2) ?hi2 (by kernel_rfl) (by kernel_rfl) (by kernel_rfl) ?hQ2 ?hy2 (by assumption) ?hrest2
      case hi2 => (simp only [List.getElem?_toArray, List.getElem?_cons_succ, List.getElem?_cons_zero]; try rfl)
      case hQ2 => exact fun _ _ _ h => h
      case hy2 =>
        refine Or.inl ⟨by rfl, ?_⟩
        (intro wq hSw; (try dsimp only at hSw); go_simp; try with_reducible rfl)
      (try simp only [Act.put, List.setIfInBounds_toArray, List.set_cons_zero, List.set_cons_succ])
      refine wpAnyH_take (i := 2) (oi := ?oi3) (v := ?v3) ?hi3 (by kernel_rfl) (by kernel_rfl) (by kernel_rfl) ?hQ3 ?hy3 (by assumption) ?hrest3
      case hi3 => (simp only [List.getElem?_toArray, List.getElem?_cons_succ, List.getElem?_cons_zero]; try rfl)
      case hQ3 => exact fun _ _ _ h => h
      case hy3 =>
        refine Or.inl ⟨by rfl, ?_⟩
        (intro wq hSw; (try dsimp only at hSw); go_simp; try with_reducible rfl)
      (try simp only [Act.put, List.setIfInBounds_toArray, List.set_cons_zero, List.set_cons_succ])
      refine wpAnyH_take (i := 3) (oi := ?oi4) (v := ?v4) ?hi4 (by kernel_rfl) (by kernel_rfl) (by kernel_rfl) ?hQ4 ?hy4 (by assumption) ?hrest4
      case hi4 => (simp only [List.getElem?_toArray, List.getElem?_cons_succ, List.getElem?_cons_zero]; try rfl)
      case hQ4 => exact fun _ _ _ h => h
      case hy4 =>
        refine Or.inl ⟨by rfl, ?_⟩
        (intro wq hSw; (try dsimp only at hSw); go_simp; try with_reducible rfl)
      (try simp only [Act.put, List.setIfInBounds_toArray, List.set_cons_zero, List.set_cons_succ])
      refine wpAnyH_take (i := 4) (oi := ?oi5) (v := ?v5) ?hi5 (by kernel_rfl) (by kernel_rfl) (by kernel_rfl) ?hQ5 ?hy5 (by assumption) ?hrest5
      case hi5 => (simp only [List.getElem?_toArray, List.getElem?_cons_succ, List.getElem?_cons_zero]; try rfl)
      case hQ5 => exact fun _ _ _ h => h
      case hy5 =>
        refine Or.inl ⟨by rfl, ?_⟩
        (intro wq hSw; (try dsimp only at hSw); go_simp; try with_reducible rfl)
      (try simp only [Act.put, List.setIfInBounds_toArray, List.set_cons_zero, List.set_cons_succ])
      refine wpAnyH_take (i := 5) (oi := ?oi6) (v := ?v6) ?hi6 (by kernel_rfl) (by kernel_rfl) (by kernel_rfl) ?hQ6 ?hy6 (by assumption) ?hrest6
      case hi6 => (simp only [List.getElem?_toArray, List.getElem?_cons_succ, List.getElem?_cons_zero]; try rfl)
      case hQ6 => exact fun _ _ _ h => h
      case hy6 =>
        refine Or.inl ⟨by rfl, ?_⟩
        (intro wq hSw; (try dsimp only at hSw); go_simp; try with_reducible rfl)
      (try simp only [Act.put, List.setIfInBounds_toArray, List.set_cons_zero, List.set_cons_succ])
      refine wpAnyH_take (i := 6) (oi := ?oi7) (v := ?v7) ?hi7 (by kernel_rfl) (by kernel_rfl) (by kernel_rfl) ?hQ7 ?hy7 (by assumption) ?hrest7
      case hi7 => (simp only [List.getElem?_toArray, List.getElem?_cons_succ, List.getElem?_cons_zero]; try rfl)
      case hQ7 => exact fun _ _ _ h => h
      case hy7 =>
        refine Or.inl ⟨by rfl, ?_⟩
        (intro wq hSw; (try dsimp only at hSw); go_simp; try with_reducible rfl)
      (try simp only [Act.put, List.setIfInBounds_toArray, List.set_cons_zero, List.set_cons_succ])
      refine wpAnyH_take (i := 7) (oi := ?oi8) (v := ?v8) ?hi8 (by kernel_rfl) (by kernel_rfl) (by kernel_rfl) ?hQ8 ?hy8 (by assumption) ?hrest8
      case hi8 => (simp only [List.getElem?_toArray, List.getElem?_cons_succ, List.getElem?_cons_zero]; try rfl)
      case hQ8 => exact fun _ _ _ h => h
      case hy8 =>
        refine Or.inl ⟨by rfl, ?_⟩
        (intro wq hSw; (try dsimp only at hSw); go_simp; try with_reducible rfl)
      (try simp only [Act.put, List.setIfInBounds_toArray, List.set_cons_zero, List.set_cons_succ])
      refine wpAnyH_ready (rs := [8]) (by kernel_rfl) (by simp) ?_
      refine AllReadyH.cons (o := ?oi9) ?hi9 (fun K hK => ?hstep9) AllReadyH.nil
      case hi9 => (simp only [List.getElem?_toArray, List.getElem?_cons_succ, List.getElem?_cons_zero]; try rfl)
      go_simp
      (refine (KS.out _ hHeld).mono ?_; rintro e wx ⟨rfl, hbx⟩)
      obtain _ := id hHeld
      refine hK.out _ _ ?_ (fun hHeldx => ?_)
      · (try dsimp only)
        (repeat' apply And.intro) <;> (first | assumption | exact below_step (by assumption) hbx)
      clear hK K
      (try simp only [Act.put, List.setIfInBounds_toArray, List.set_cons_zero, List.set_cons_succ])
      refine wpAnyH_turn hHeldx (fun hHeld => ?_)
      refine wpAnyH_take (i := 9) (oi := ?oi10) (v := ?v10) ?hi10 (by kernel_rfl) (by kernel_rfl) (by kernel_rfl) ?hQ10 ?hy10 (by assumption) ?hrest10
      case hi10 => (simp only [List.getElem?_toArray, List.getElem?_cons_succ, List.getElem?_cons_zero]; try rfl)
      case hQ10 => exact fun _ _ _ h => h
      case hy10 =>
        refine Or.inl ⟨by rfl, ?_⟩
        (intro wq hSw; (try dsimp only at hSw); go_simp; try with_reducible rfl)
      (try simp only [Act.put, List.setIfInBounds_toArray, List.set_cons_zero, List.set_cons_succ])
      refine wpAnyH_done (by kernel_rfl) ?_ _
      refine NoPanic.normal ?_
      go_wp2_with fail
      go_roundw
      case rel => exact ⟨j + 1, by omega, by go_num, below_step hb hHeld.1⟩
      case measure => simp [RowKit.intOf]; omega
    · go_wp2_with fail
      go_ret
      exact ⟨rfl, hb⟩
end Go.Proofs.Ytelmndpelgbboaa
