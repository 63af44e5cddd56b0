/-
  The walk of the law ClientAgain.
-/
import Derived.Test.YtelmndpelgbboaaCliJ
namespace Go.Proofs.Ytelmndpelgbboaa
open Go.RowKit Go.Conc Go.Cov Go.Lib
theorem rq_at {W : World} {A : Option Addr} {rs : List Rq} (h : Els rqEl W A rs) (i : Nat) (hi : i < rs.length) : ∃ ad, A = some ad ∧ (∀ j u, (reqL rs[i].q rs[i].n rs[i].c rs[i].val)[j]? = some u → W.cell? ((ad.add (i * 15)).add j) = some u) ∧ Rd W rs[i].A (rs[i].body.map byt) := by
  obtain ⟨ad, hA, hc, hp⟩ := h.at' i hi
  refine ⟨ad, hA, hc, ?_⟩
  obtain ⟨A', c', he, _, _, hr⟩ := hp (rs[i].val, rs[i].body) (by simp [rqEl])
  unfold Rq.val at he
  injection he with h1 h2 h3
  rw [h1]; exact hr
set_option maxRecDepth 100000 in
set_option maxHeartbeats 6400000 in
theorem again_law {B : Option Addr} {d : Nat} {b : List UInt8} {w : World} (a : Int) (ha : 0 ≤ a ∧ a < 256) (g : Int) (hg : 0 ≤ g ∧ g < 256) (hB : Rd w B (b.map byt)) (hbl : b.length ≤ 140737488351232) (t : Int) (ht : 0 ≤ t ∧ t < 256) :
    Calls Try.prog 4 #[.int .u8 a, .int .u8 g, .slice B b.length d, .int .u8 t] w fun e w' => e = .returned (.bool true) ∧ Below w.heap.size w w' := by
  obtain ⟨n, hn⟩ : ∃ n, a.tmod 4 = n := ⟨_, rfl⟩
  have hn2 : 0 ≤ n ∧ n ≤ 3 := by rw [← hn, Int.tmod_eq_emod_of_nonneg ha.1]; omega
  have hw1 : IntKind.u8.wrap n = n := by simp [IntKind.wrap, IntKind.bits, IntKind.signed]; omega
  have hw2 : IntKind.i64.wrap n = n := wrap_of _ (by omega) (by omega)
  have hw3 : IntKind.i64.wrap g = g := wrap_of _ (by omega) (by omega)
  have hw4 : IntKind.i64.wrap (1 + g) = 1 + g := wrap_of _ (by omega) (by omega)
  have hw5 : IntKind.i64.wrap t = t := wrap_of _ (by omega) (by omega)
  go_enter Try.func4, Try.ntmps4
  go_wp2_with fail
  refine (chead_any w).mono ?_
  rintro e w1 ⟨rfl, hb1⟩
  go_wp2_with fail
  have hok : okC n 9 (1 + g) 4 := by unfold okC; omega
  refine (new_cl hok w1).mono ?_
  rintro e w2 ⟨cb, xb, xc, rfl, hC0, hb2⟩
  have b2 := below_step hb1 hb2
  have hs1 := hb1.size
  by_cases hl : 8192 < b.length
  · have j : (8192 : Int) < b.length := by omega
    go_wp2_with fail
    go_ret
    exact ⟨rfl, b2⟩
  · have j : ¬ (8192 : Int) < b.length := by omega
    go_wp2_with fail
    refine (ask_yes hC0 (by unfold Fine new0; refine ⟨hok, ?_⟩; simp) (by unfold mayAsk new0; simp; omega) (d := d) (fun W hW => hB.below (b2.trans ((hW.below hC0.lo.1 hC0.lo.2.2 hb2.size).mono hs1)))).mono ?_
    rintro e w3 ⟨V, kk, gb, rfl, hC3, hE3, hgb, hV, hcap, hG3⟩
    have hlt := hC0.lt
    have b3 := hb2.trans (hG3.below hC0.lo.1 hC0.lo.2.2 hb2.size)
    obtain ⟨ad3, ha3, hcell, rV⟩ := rq_at hE3 0 (by simp)
    cases ha3
    have apV : Apa cb xc V := fun ad hA => by have h1 := hV ad hA; exact ⟨Nat.ne_of_gt (Nat.lt_of_lt_of_le hlt.1 h1), Nat.ne_of_gt (Nat.lt_of_lt_of_le hlt.2.2 h1)⟩
    have apg : Apa cb xc (some ⟨gb, 0, none⟩) := fun ad hA => by cases hA; exact ⟨Nat.ne_of_gt (Nat.lt_of_lt_of_le hlt.1 hgb), Nat.ne_of_gt (Nat.lt_of_lt_of_le hlt.2.2 hgb)⟩
    have hF : Rd w3 (some ⟨gb, 0, none⟩) (reqL (0 % (2 * n + 1)) 9 1 (.slice V b.length kk)) := fun j u hj => ⟨_, rfl, by have := hcell j u hj; simpa [add_none] using this⟩
    rw [Int.zero_emod] at hF
    have rV : Rd w3 V (b.map byt) := rV
    clear hcell hE3
    have hFF3 : ∀ j u, (reqL 0 9 1 (.slice V b.length kk))[j]? = some u → w3.cell? ⟨gb, j, none⟩ = some u := fun j u hj => by
      obtain ⟨ad', he, hc⟩ := hF j u hj
      cases he
      simpa [add_none] using hc
    go_wp2_with fail
    go_loopw [14] (fun i W => ∃ j : Nat, (j : Int) ≤ t ∧ i = .int .i64 ((j : Int) + 1) ∧ Cl W w1.heap.size cb { asks (new0 n 9 (1 + g) 4 xb xc) b V kk with ticks := j } ∧ Gro cb xc w3 W) (fun i _ => t.toNat + 1 - (RowKit.intOf i).toNat)
    case atStart => exact ⟨0, by omega, rfl, hC3, Gro.refl _ _ _⟩
    case round =>
      obtain ⟨j, hj, rfl, hC, hG⟩ := hrel
      have hbG := b3.trans (hG.below hC0.lo.1 hC0.lo.2.2 b3.size)
      by_cases hlt2 : (j : Int) + 1 ≤ t
      · have jw : IntKind.i64.wrap ((j : Int) + 1) = (j : Int) + 1 := wrap_of _ (by omega) (by omega)
        have jt : ((j : Int) + 1).tmod (1 + g) = ((j : Int) + 1) % (1 + g) := Int.tmod_eq_emod_of_nonneg (by omega)
        have jn : ¬ (1 + g = 0) := by omega
        have K := hid (tick_yes hC hok rfl hcap)
        go_wp2_with fail
        refine K.out.mono ?_
        rintro e wt ⟨vv, rfl, hE, hCt, hGt⟩
        obtain ⟨ys, hys⟩ : ∃ ys, ys = atAll { asks (new0 n 9 (1 + g) 4 xb xc) b V kk with ticks := j } := ⟨_, rfl⟩
        rw [← hys] at hE
        have hct : ticked { asks (new0 n 9 (1 + g) 4 xb xc) b V kk with ticks := (j : Int) } = { asks (new0 n 9 (1 + g) 4 xb xc) b V kk with ticks := ((j + 1 : Nat) : Int) } := by
          unfold ticked; rw [jw]; simp
        rw [hct] at hCt
        have hGT := hG.trans hGt
        obtain ⟨At, ct, rfl, hct2, _, hEt⟩ := hE.rd
        clear K hE hC hGt hct
        have hFF : ∀ W, Below wt.heap.size wt W → ∀ j u, (reqL 0 9 1 (.slice V b.length kk))[j]? = some u → W.cell? ⟨gb, j, none⟩ = some u := fun W hW j u hj => by
          have h3 := hFF3 j u hj
          have hl3 := cell_lt h3
          exact (World.cell?_of_block (a := ⟨gb, j, none⟩) ((hW.block gb (Nat.lt_of_lt_of_le hl3 hGT.size)).trans (hGT.block gb hl3 (apg _ rfl).1 (apg _ rfl).2))).trans h3
        have rVt := hGT.rd rV apV
        by_cases hz : ((j : Int) + 1) % (1 + g) = 0
        · have hy2 : ys = rqs { asks (new0 n 9 (1 + g) 4 xb xc) b V kk with ticks := (j : Int) } (2 * n.toNat + 1) := by
            rw [hys]; unfold atAll
            rw [show IntKind.i64.wrap (({ asks (new0 n 9 (1 + g) 4 xb xc) b V kk with ticks := (j : Int) } : Cs).ticks + 1) = (j : Int) + 1 from jw]
            exact if_pos (jt.trans hz)
          have hyl : ys.length = 2 * n.toNat + 1 := by rw [hy2, rqs_len]
          have hyk : ∀ k (hk : k < ys.length), ys[k] = ⟨(k : Nat), 9, 1, V, kk, b⟩ := fun k hk => by
            subst hy2
            simp [rqs, asks, new0]
          have jz : (((j : Int) + 1).tmod (1 + g) == 0) = true := by rw [jt, hz]; rfl
          have e4 : IntKind.i64.wrap (2 * n) = 2 * n := wrap_of _ (by omega) (by omega)
          have e5 : IntKind.i64.wrap (2 * n + 1) = 2 * n + 1 := wrap_of _ (by omega) (by omega)
          have hyi : (ys.length : Int) = 2 * n + 1 := by omega
          have jl : ((ys.length : Int) != 2 * n + 1) = false := by simp [hyi]
          have HYL := hid hyi
          clear hys hy2 hyl hyi
          go_wp2_with fail
          go_loopw [17] (fun i W => ∃ k : Nat, k ≤ ys.length ∧ i = .int .i64 k ∧ Below wt.heap.size wt W) (fun i _ => ys.length - (RowKit.intOf i).toNat)
          case atStart => exact ⟨0, by omega, rfl, Below.refl _ _⟩
          case round =>
            obtain ⟨k, hk, rfl, hb⟩ := hrel
            by_cases hlk : k < ys.length
            · have i1 : (k : Int) < ys.length := by omega
              have HK : k < 10 := by have := HYL.out; omega
              obtain ⟨ad, rfl, hx, rx⟩ := rq_at (hEt.below hb) k hlk
              rw [hyk k hlk] at hx rx
              have g0 := hFF wr hb 0 _ rfl
              have g1 := hFF wr hb 1 _ rfl
              have g2 := hFF wr hb 2 _ rfl
              have g3 := hFF wr hb 3 _ rfl
              have g4 := hFF wr hb 4 _ rfl
              have g5 := hFF wr hb 5 _ rfl
              have g6 := hFF wr hb 6 _ rfl
              have g7 := hFF wr hb 7 _ rfl
              have g8 := hFF wr hb 8 _ rfl
              have g9 := hFF wr hb 9 _ rfl
              have g10 := hFF wr hb 10 _ rfl
              have g11 := hFF wr hb 11 _ rfl
              have g12 := hFF wr hb 12 _ rfl
              have g13 := hFF wr hb 13 _ rfl
              have g14 := hFF wr hb 14 _ rfl
              go_upto_region 23 with fail
              have RR := RowB.new wr [.int .i64 1, .int .i64 (-1), .int .i64 (k : Nat), .int .i64 0, .int .i64 0, .int .i64 0, .int .i64 0, .int .i64 0, .int .i64 9, .int .i64 1, .slice V b.length kk, .bool false, .int .i64 0, .slice none 0 0, .slice none 0 0] 34
              generalize wr.alloc _ = W2 at RR ⊢
              have bb := RR.below
              have hb2W := hb.trans (bb.mono hb.size)
              have x0 : W2.cell? (ad.add (k * 15)) = some (.int .i64 1) := (by have := cell_on bb (hx 0 _ rfl); rwa [add_zero'] at this)
              have y0 := (RR.row.2 0 _ rfl).1
              have kx0 := fun W (hW : Below W2.heap.size W2 W) => cell_on hW x0
              have ky0 := fun W (hW : Below W2.heap.size W2 W) => cell_on hW y0
              have x1 : W2.cell? ⟨(ad.add (k * 15)).block, (ad.add (k * 15)).off + 1, none⟩ = some (.int .i64 (-1)) := cell_on bb (hx 1 _ rfl)
              have y1 := (RR.row.2 1 _ rfl).1
              have kx1 := fun W (hW : Below W2.heap.size W2 W) => cell_on hW x1
              have ky1 := fun W (hW : Below W2.heap.size W2 W) => cell_on hW y1
              have x2 : W2.cell? ⟨(ad.add (k * 15)).block, (ad.add (k * 15)).off + 2, none⟩ = some (.int .i64 ((k : Nat) : Int)) := cell_on bb (hx 2 _ rfl)
              have y2 := (RR.row.2 2 _ rfl).1
              have kx2 := fun W (hW : Below W2.heap.size W2 W) => cell_on hW x2
              have ky2 := fun W (hW : Below W2.heap.size W2 W) => cell_on hW y2
              have x3 : W2.cell? ⟨(ad.add (k * 15)).block, (ad.add (k * 15)).off + 3, none⟩ = some (.int .i64 0) := cell_on bb (hx 3 _ rfl)
              have y3 := (RR.row.2 3 _ rfl).1
              have kx3 := fun W (hW : Below W2.heap.size W2 W) => cell_on hW x3
              have ky3 := fun W (hW : Below W2.heap.size W2 W) => cell_on hW y3
              have x4 : W2.cell? ⟨(ad.add (k * 15)).block, (ad.add (k * 15)).off + 4, none⟩ = some (.int .i64 0) := cell_on bb (hx 4 _ rfl)
              have y4 := (RR.row.2 4 _ rfl).1
              have kx4 := fun W (hW : Below W2.heap.size W2 W) => cell_on hW x4
              have ky4 := fun W (hW : Below W2.heap.size W2 W) => cell_on hW y4
              have x5 : W2.cell? ⟨(ad.add (k * 15)).block, (ad.add (k * 15)).off + 5, none⟩ = some (.int .i64 0) := cell_on bb (hx 5 _ rfl)
              have y5 := (RR.row.2 5 _ rfl).1
              have kx5 := fun W (hW : Below W2.heap.size W2 W) => cell_on hW x5
              have ky5 := fun W (hW : Below W2.heap.size W2 W) => cell_on hW y5
              have x6 : W2.cell? ⟨(ad.add (k * 15)).block, (ad.add (k * 15)).off + 6, none⟩ = some (.int .i64 0) := cell_on bb (hx 6 _ rfl)
              have y6 := (RR.row.2 6 _ rfl).1
              have kx6 := fun W (hW : Below W2.heap.size W2 W) => cell_on hW x6
              have ky6 := fun W (hW : Below W2.heap.size W2 W) => cell_on hW y6
              have x7 : W2.cell? ⟨(ad.add (k * 15)).block, (ad.add (k * 15)).off + 7, none⟩ = some (.int .i64 0) := cell_on bb (hx 7 _ rfl)
              have y7 := (RR.row.2 7 _ rfl).1
              have kx7 := fun W (hW : Below W2.heap.size W2 W) => cell_on hW x7
              have ky7 := fun W (hW : Below W2.heap.size W2 W) => cell_on hW y7
              have x8 : W2.cell? ⟨(ad.add (k * 15)).block, (ad.add (k * 15)).off + 8, none⟩ = some (.int .i64 9) := cell_on bb (hx 8 _ rfl)
              have y8 := (RR.row.2 8 _ rfl).1
              have kx8 := fun W (hW : Below W2.heap.size W2 W) => cell_on hW x8
              have ky8 := fun W (hW : Below W2.heap.size W2 W) => cell_on hW y8
              have x9 : W2.cell? ⟨(ad.add (k * 15)).block, (ad.add (k * 15)).off + 9, none⟩ = some (.int .i64 1) := cell_on bb (hx 9 _ rfl)
              have y9 := (RR.row.2 9 _ rfl).1
              have kx9 := fun W (hW : Below W2.heap.size W2 W) => cell_on hW x9
              have ky9 := fun W (hW : Below W2.heap.size W2 W) => cell_on hW y9
              have x10 : W2.cell? ⟨(ad.add (k * 15)).block, (ad.add (k * 15)).off + 10, none⟩ = some (.slice V b.length kk) := cell_on bb (hx 10 _ rfl)
              have y10 := (RR.row.2 10 _ rfl).1
              have kx10 := fun W (hW : Below W2.heap.size W2 W) => cell_on hW x10
              have ky10 := fun W (hW : Below W2.heap.size W2 W) => cell_on hW y10
              have x11 : W2.cell? ⟨(ad.add (k * 15)).block, (ad.add (k * 15)).off + 11, none⟩ = some (.bool false) := cell_on bb (hx 11 _ rfl)
              have y11 := (RR.row.2 11 _ rfl).1
              have kx11 := fun W (hW : Below W2.heap.size W2 W) => cell_on hW x11
              have ky11 := fun W (hW : Below W2.heap.size W2 W) => cell_on hW y11
              have x12 : W2.cell? ⟨(ad.add (k * 15)).block, (ad.add (k * 15)).off + 12, none⟩ = some (.int .i64 0) := cell_on bb (hx 12 _ rfl)
              have y12 := (RR.row.2 12 _ rfl).1
              have kx12 := fun W (hW : Below W2.heap.size W2 W) => cell_on hW x12
              have ky12 := fun W (hW : Below W2.heap.size W2 W) => cell_on hW y12
              have x13 : W2.cell? ⟨(ad.add (k * 15)).block, (ad.add (k * 15)).off + 13, none⟩ = some (.slice none 0 0) := cell_on bb (hx 13 _ rfl)
              have y13 := (RR.row.2 13 _ rfl).1
              have kx13 := fun W (hW : Below W2.heap.size W2 W) => cell_on hW x13
              have ky13 := fun W (hW : Below W2.heap.size W2 W) => cell_on hW y13
              have x14 : W2.cell? ⟨(ad.add (k * 15)).block, (ad.add (k * 15)).off + 14, none⟩ = some (.slice none 0 0) := cell_on bb (hx 14 _ rfl)
              have y14 := (RR.row.2 14 _ rfl).1
              have kx14 := fun W (hW : Below W2.heap.size W2 W) => cell_on hW x14
              have ky14 := fun W (hW : Below W2.heap.size W2 W) => cell_on hW y14
              have rx2 := rx.below bb
              have rV2 := rVt.below hb2W
              clear hx rx
              refine wp_region_noPanic ?_
              refine wp_region_held_drew (S := (fun W => Below W2.heap.size W2 W)) (by kernel_rfl) ?_ (fun hHeld => ?_)
              · exact (Below.refl _ _).drew
              refine wpAnyH_take (i := 0) (oi := ?oi1) (v := ?v1) ?hi1 (by kernel_rfl) (by kernel_rfl) (by kernel_rfl) ?hQ1 ?hy1 (by assumption) ?hrest1
              case hi1 => (simp only [List.getElem?_toArray, List.getElem?_cons_zero]; try rfl)
              case hQ1 => exact fun _ _ _ h => h
              case hy1 =>
                refine Or.inl ⟨by rfl, ?_⟩
                (intro wq hSw; (try dsimp only at hSw); go_simp; try with_reducible rfl)
              (try simp only [Act.put, List.setIfInBounds_toArray, List.set_cons_zero, List.set_cons_succ])
              refine wpAnyH_take (i := 1) (oi := ?oi2) (v := ?v2) ?hi2 (by kernel_rfl) (by kernel_rfl) (by kernel_rfl) ?hQ2 ?hy2 (by assumption) ?hrest2
              case hi2 => (simp only [List.getElem?_toArray, List.getElem?_cons_succ, List.getElem?_cons_zero]; try rfl)
              case hQ2 => exact fun _ _ _ h => h
              case hy2 =>
                refine Or.inl ⟨by rfl, ?_⟩
                (intro wq hSw; (try dsimp only at hSw); go_simp; try with_reducible rfl)
              (try simp only [Act.put, List.setIfInBounds_toArray, List.set_cons_zero, List.set_cons_succ])
              refine wpAnyH_take (i := 2) (oi := ?oi3) (v := ?v3) ?hi3 (by kernel_rfl) (by kernel_rfl) (by kernel_rfl) ?hQ3 ?hy3 (by assumption) ?hrest3
              case hi3 => (simp only [List.getElem?_toArray, List.getElem?_cons_succ, List.getElem?_cons_zero]; try rfl)
              case hQ3 => exact fun _ _ _ h => h
              case hy3 =>
                refine Or.inl ⟨by rfl, ?_⟩
                (intro wq hSw; (try dsimp only at hSw); go_simp; try with_reducible rfl)
              (try simp only [Act.put, List.setIfInBounds_toArray, List.set_cons_zero, List.set_cons_succ])
              refine wpAnyH_take (i := 3) (oi := ?oi4) (v := ?v4) ?hi4 (by kernel_rfl) (by kernel_rfl) (by kernel_rfl) ?hQ4 ?hy4 (by assumption) ?hrest4
              case hi4 => (simp only [List.getElem?_toArray, List.getElem?_cons_succ, List.getElem?_cons_zero]; try rfl)
              case hQ4 => exact fun _ _ _ h => h
              case hy4 =>
                refine Or.inl ⟨by rfl, ?_⟩
                (intro wq hSw; (try dsimp only at hSw); go_simp; try with_reducible rfl)
              (try simp only [Act.put, List.setIfInBounds_toArray, List.set_cons_zero, List.set_cons_succ])
              refine wpAnyH_take (i := 4) (oi := ?oi5) (v := ?v5) ?hi5 (by kernel_rfl) (by kernel_rfl) (by kernel_rfl) ?hQ5 ?hy5 (by assumption) ?hrest5
              case hi5 => (simp only [List.getElem?_toArray, List.getElem?_cons_succ, List.getElem?_cons_zero]; try rfl)
              case hQ5 => exact fun _ _ _ h => h
              case hy5 =>
                refine Or.inl ⟨by rfl, ?_⟩
                (intro wq hSw; (try dsimp only at hSw); go_simp; try with_reducible rfl)
              (try simp only [Act.put, List.setIfInBounds_toArray, List.set_cons_zero, List.set_cons_succ])
              refine wpAnyH_ready (rs := [5]) (by kernel_rfl) (by simp) ?_
              refine AllReadyH.cons (o := ?oi6) ?hi6 (fun K hK => ?hstep6) AllReadyH.nil
              case hi6 => (simp only [List.getElem?_toArray, List.getElem?_cons_succ, List.getElem?_cons_zero]; try rfl)
              go_simp
              (refine (same_rq (k : Nat) 9 1 (rx2.below hHeld) (rV2.below hHeld)).mono ?_; rintro e wx ⟨rfl, hbx⟩)
              obtain _ := id hHeld
              refine hK.out _ _ ?_ (fun hHeldx => ?_)
              · (try dsimp only)
                (repeat' apply And.intro) <;> (first | assumption | exact below_step (by assumption) hbx)
              clear hK K
              (try simp only [Act.put, List.setIfInBounds_toArray, List.set_cons_zero, List.set_cons_succ])
              refine wpAnyH_turn hHeldx (fun hHeld => ?_)
              refine wpAnyH_take (i := 6) (oi := ?oi7) (v := ?v7) ?hi7 (by kernel_rfl) (by kernel_rfl) (by kernel_rfl) ?hQ7 ?hy7 (by assumption) ?hrest7
              case hi7 => (simp only [List.getElem?_toArray, List.getElem?_cons_succ, List.getElem?_cons_zero]; try rfl)
              case hQ7 => exact fun _ _ _ h => h
              case hy7 =>
                refine Or.inl ⟨by rfl, ?_⟩
                (intro wq hSw; (try dsimp only at hSw); go_simp; try with_reducible rfl)
              (try simp only [Act.put, List.setIfInBounds_toArray, List.set_cons_zero, List.set_cons_succ])
              refine wpAnyH_done (by kernel_rfl) ?_ _
              refine NoPanic.normal ?_
              go_wp2_with fail
              go_roundw
              case rel => exact ⟨k + 1, by omega, by go_num, hb2W.trans (hHeld.1.mono hb2W.size)⟩
              case measure => simp [RowKit.intOf]; omega
            · obtain rfl : k = ys.length := by omega
              go_wp2_with fail
              go_roundw
              case rel => exact ⟨j + 1, by omega, by go_num, hCt.gro hb, hGT.trans (Gro.of_below hb)⟩
              case measure => simp [RowKit.intOf]; omega
        · have hy0 : ys = [] := by
            rw [hys]; unfold atAll
            rw [show IntKind.i64.wrap (({ asks (new0 n 9 (1 + g) 4 xb xc) b V kk with ticks := (j : Int) } : Cs).ticks + 1) = (j : Int) + 1 from jw]
            exact if_neg (fun e => hz (jt.symm.trans e))
          clear hys
          subst hy0
          have jz : (((j : Int) + 1).tmod (1 + g) == 0) = false := by rw [jt]; simp [hz]
          go_wp2_with fail
          go_loopw [17] (fun i W => i = .int .i64 0 ∧ W = wt) (fun _ _ => 0)
          case atStart => exact ⟨rfl, rfl⟩
          case round =>
            obtain ⟨rfl, rfl⟩ := hrel
            go_wp2_with fail
            go_roundw
            case rel => exact ⟨j + 1, by omega, by go_num, hCt, hGT⟩
            case measure => simp [RowKit.intOf]; omega
      · go_wp2_with fail
        go_ret
        exact ⟨rfl, hb1.trans (hbG.mono hs1)⟩
end Go.Proofs.Ytelmndpelgbboaa
