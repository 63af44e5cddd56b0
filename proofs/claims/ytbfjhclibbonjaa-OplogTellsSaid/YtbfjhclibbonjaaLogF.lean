import Derived.Test.YtbfjhclibbonjaaLogE
namespace Go.Proofs.Ytbfjhclibbonjaa
open Go.RowKit Go.Cov Go.Shelf
attribute [local go_sem] Oper.semAt_some
/-- the last place, if any -/
def lastIx (p : ED → Bool) (L : EL) : Option Nat := (L.reverse.findIdx? p).map fun k => L.length - 1 - k
def hits (cl rq : Int) (x : ED) : Bool := decide (x.1 = cl) && decide (x.2.1 = rq)
def findL (s : Int) (L : EL) (cl rq : Int) : Int := if rightL s L = true then (match lastIx (hits cl rq) L with | some i => s + i + 1 | none => 0) else 0
theorem last_none {xs : List En} {L : EL} (h : xs.map En.data = L) {p : ED → Bool} (hn : ∀ q ∈ dn xs xs.length, p q.2.data = false) : lastIx p L = none := by
  unfold lastIx
  rw [Option.map_eq_none_iff, List.findIdx?_eq_none_iff]
  intro x hx
  rw [← h, List.mem_reverse, List.mem_map] at hx
  obtain ⟨a, ha, rfl⟩ := hx
  obtain ⟨i, hi, rfl⟩ := List.getElem_of_mem ha
  have := hn (dnAt xs (xs.length - 1 - i)) (by rw [dn, List.mem_map]; exact ⟨_, by simp; omega, rfl⟩)
  rwa [dnAt_at (m := i) (by omega) hi] at this
theorem last_some {xs : List En} {L : EL} (h : xs.map En.data = L) {p : ED → Bool} {k : Nat} (hk : k < xs.length) (hn : ∀ q ∈ dn xs k, p q.2.data = false) (hp : p (dnAt xs k).2.data = true) : lastIx p L = some (xs.length - 1 - k) := by
  unfold lastIx
  have e : L.reverse.findIdx? p = some k := by
    rw [List.findIdx?_eq_some_iff_getElem]
    have hl : L.reverse.length = xs.length := by rw [List.length_reverse, ← h, List.length_map]
    have hat : ∀ j, (hj : j < xs.length) → L.reverse[j] = (dnAt xs j).2.data := fun j hj => by
      rw [List.getElem_reverse, dnAt_at (m := xs.length - 1 - j) rfl (by omega)]
      subst h
      simp
    refine ⟨by omega, by rw [hat k hk]; exact hp, fun j hj => ?_⟩
    rw [hat j (by omega), hn _ (by rw [dn, List.mem_map]; exact ⟨j, by simpa using hj, rfl⟩)]
    simp
  rw [e, ← h, List.length_map]
  rfl
theorem wrap64_of (n : Int) (h1 : -9223372036854775808 ≤ n) (h2 : n ≤ 9223372036854775807) : wrap64 n = n := by unfold wrap64; omega
set_option maxRecDepth 100000 in
set_option maxHeartbeats 2000000 in
theorem find_any {s : Int} {A : Option Addr} {c : Nat} {xs : List En} {L : EL} {w : World} (h : Lg w A c xs L) (cl rq : Int) :
    Calls Try.prog 11 #[.agg #[.int .i64 s, .slice A xs.length c], .int .i64 cl, .int .i64 rq] w fun e w' => e = .returned (.int .i64 (findL s L cl rq)) ∧ Below w.heap.size w w' := by
  refine (callsIn_wide (n := 5)).1 ?_
  obtain ⟨w1, hw1⟩ : ∃ w1, w.alloc (.cells #[.int .i64 s, .slice A xs.length c] 26) = w1 := ⟨_, rfl⟩
  obtain ⟨w2, hw2⟩ : ∃ w2, w1.alloc (.cells #[.int .i64 cl] 2) = w2 := ⟨_, rfl⟩
  obtain ⟨w3, hw3⟩ : ∃ w3, w2.alloc (.cells #[.int .i64 rq] 2) = w3 := ⟨_, rfl⟩
  obtain ⟨w4, hw4⟩ : ∃ w4, w3.alloc (.cells #[.int .i64 0] 2) = w4 := ⟨_, rfl⟩
  have b1 : Below w.heap.size w w1 := by rw [← hw1]; exact below_alloc _ _
  have b12 : Below w1.heap.size w1 w2 := by rw [← hw2]; exact below_alloc _ _
  have b23 : Below w2.heap.size w2 w3 := by rw [← hw3]; exact below_alloc _ _
  have b34 : Below w3.heap.size w3 w4 := by rw [← hw4]; exact below_alloc _ _
  have b4 : Below w.heap.size w w4 := below_step (below_step (below_step b1 b12) b23) b34
  have n1 : w1.heap.size = w.heap.size + 1 := by rw [← hw1]; exact size_run
  have n2 : w2.heap.size = w.heap.size + 2 := by rw [← hw2, size_run, n1]
  have n3 : w3.heap.size = w.heap.size + 3 := by rw [← hw3, size_run, n2]
  have n4 : w4.heap.size = w.heap.size + 4 := by rw [← hw4, size_run, n3]
  have U : Var2 w4 w.heap.size (.int .i64 s) (.slice A xs.length c) := by
    have := Var2.new w (.int .i64 s) (.slice A xs.length c) 26
    rw [hw1] at this
    exact ((this.on b12).on b23).on b34
  have C1 : w4.cell? ⟨w.heap.size + 1, 0, none⟩ = some (.int .i64 cl) := by
    have := box_cell w1 #[.int .i64 cl] 2 0 _ rfl
    rw [hw2, n1] at this
    exact cell_on b34 (cell_on b23 this)
  have R1 : w4.cell? ⟨w.heap.size + 2, 0, none⟩ = some (.int .i64 rq) := by
    have := box_cell w2 #[.int .i64 rq] 2 0 _ rfl
    rw [hw3, n2] at this
    exact cell_on b34 this
  have Z1 : w4.cell? ⟨w.heap.size + 3, 0, none⟩ = some (.int .i64 0) := by
    have := box_cell w3 #[.int .i64 0] 2 0 _ rfl
    rw [hw4, n3] at this
    exact this
  have Z2 : w4.frozen? ⟨w.heap.size + 3, 0, none⟩ = false := by
    have := World.frozen?_alloc_new (w := w3) #[.int .i64 0] 2 0
    rw [hw4, n3] at this
    exact this
  have KR := hid (logright_any (s := s) (h.below b4))
  have hro : Fence.wide.round = none := rfl
  obtain ⟨u0, u1, _⟩ := U
  refine callsIn_of_wp_marks Try.func11 rfl trivial ?_ hro
  simp only [Try.ntmps11, List.size_toArray, List.length_cons, List.length_nil, Nat.reduceAdd, Nat.reduceSub, Array.replicate_succ, Array.replicate_zero, List.push_toArray, List.append_toArray, List.nil_append, List.cons_append]
  cases hr : rightL s L with
  | false =>
    have hF : findL s L cl rq = 0 := by rw [findL, hr]; rfl
    rw [hr] at KR
    rw [hF]
    clear hr hF
    gi_wp2_with (refine ⟨trivial, ?_⟩; gi_at_call 25; refine (callsIn_wide.2 KR.out).mono ?_; rintro e w5 ⟨rfl, hb5⟩; have Z1 := cell_on hb5 Z1; have Z2 := froz_on hb5 (by omega) Z2)
    have z1 : (w5.setCell ⟨w.heap.size + 3, 0, none⟩ (.int .i64 0)).cell? ⟨w.heap.size + 3, 0, none⟩ = some (.int .i64 0) := World.cell?_setCell_same' _ _ _ (by rw [Z1]; rfl)
    refine ⟨.int .i64 0, by simp [results, Try.results11, go_sem, z1], rfl, ((below_step b4 hb5)).setCell (p := ⟨w.heap.size + 3, 0, none⟩) (Nat.le_add_right _ _) _⟩
  | true =>
    rw [hr] at KR
    obtain ⟨r1, r2, r3, _⟩ := rightL_iff.1 hr
    have hl64 : xs.length ≤ 100000 := by have := h.len; omega
    have hsl : s + xs.length ≤ 1099511627776 := by have := h.len; omega
    have hE := hid (fun W (hW : Below w.heap.size w W) => (h.below hW).1)
    have hF : findL s L cl rq = (match lastIx (hits cl rq) L with | some i => s + i + 1 | none => 0) := by rw [findL, if_pos hr]
    clear r2 r3
    gi_wp2_with (first | (refine ⟨trivial, ?_⟩; gi_at_call 25; refine (callsIn_wide.2 KR.out).mono ?_; rintro e w5 ⟨rfl, hb5⟩; have u0 := cell_on hb5 u0; have u1 := cell_on hb5 u1) | (refine ⟨trivial, ?_⟩; gi_at_call 27; refine (back_in Fence.wide _ trivial hro _ _ _ _).mono ?_; rintro e w' ⟨rfl, rfl⟩))
    have n5 : w.heap.size + 4 ≤ w5.heap.size := by have := hb5.size; omega
    have b6 := below_alloc w5 (.cells #[.slice A xs.length c] 24)
    have bS := box_cell w5 #[.slice A xs.length c] 24 0 _ rfl
    have n6 : (w5.alloc (.cells #[.slice A xs.length c] 24)).heap.size = w5.heap.size + 1 := size_run
    obtain ⟨W0, hW0⟩ : ∃ W0, w5.alloc (.cells #[.slice A xs.length c] 24) = W0 := ⟨_, rfl⟩
    rw [hW0] at b6 bS n6 ⊢
    clear hW0
    have bW0 := below_step (below_step b4 hb5) b6
    have u0 := cell_on b6 u0
    have C1 := cell_on b6 (cell_on hb5 C1)
    have R1 := cell_on b6 (cell_on hb5 R1)
    have Z2 := froz_on b6 (by omega) (froz_on hb5 (by omega) Z2)
    have Z1 := cell_on b6 (cell_on hb5 Z1)
    refine wpIn_rangeFunc_ownH hro (by decide) (gf := 33) (lb := #[.pointer (some ⟨w5.heap.size, 0, none⟩)]) rfl trivial (enters_of Try.func33 (by kernel_rfl) rfl)
      (back_stops Fence.wide _ trivial hro (by decide) w5.heap.size (hE.out W0 bW0) hl64 bS) belowK_t (belowK_b (Nat.le_refl _)) (Below.refl _ _) (fun _ => rfl)
      (fun pre W => ((∀ p ∈ pre, hits cl rq p.2.data = false) ∧ W.cell? ⟨w.heap.size, 0, none⟩ = some (.int .i64 s) ∧ W.cell? ⟨w.heap.size + 1, 0, none⟩ = some (.int .i64 cl) ∧ W.cell? ⟨w.heap.size + 2, 0, none⟩ = some (.int .i64 rq) ∧ W.cell? ⟨w.heap.size + 3, 0, none⟩ = some (.int .i64 0) ∧ W.frozen? ⟨w.heap.size + 3, 0, none⟩ = false) ∧ Below W0.heap.size W0 W)
      (fun cc pre W => (cc = .ret ∧ ∃ ini lst, pre = ini ++ [lst] ∧ (∀ p ∈ ini, hits cl rq p.2.data = false) ∧ hits cl rq lst.2.data = true ∧ W.cell? ⟨w.heap.size + 3, 0, none⟩ = some (.int .i64 (wrap64 (wrap64 (s + (lst.1 : Int)) + 1)))) ∧ Below w.heap.size w W)
      (OwnFrom.and (Own.from (fun q X Y row hs hg hr => ⟨hs.1, cell_kept hs.2.1 hg hr, cell_kept hs.2.2.1 hg hr, cell_kept hs.2.2.2.1 hg hr, cell_kept hs.2.2.2.2.1 hg hr, (frozen_kept hs.2.2.2.2.1 hg hr).trans hs.2.2.2.2.2⟩) _) (ownFrom_below (Nat.le_refl _) (Nat.le_refl _)))
      (fun cc => OwnFrom.and (Own.from (fun q X Y row hs hg hr => by obtain ⟨hc, ini, lst, e1, e2, e3, e4⟩ := hs; exact ⟨hc, ini, lst, e1, e2, e3, cell_kept e4 hg hr⟩) _) (ownFrom_below (Nat.le_refl _) bW0.size))
      ⟨⟨by simp, u0, C1, R1, Z1, Z2⟩, Below.refl _ _⟩
      (fun x a' W => ∃ Bx, w.heap.size + 3 < Bx ∧ (W.cell? ⟨Bx, 0, none⟩ = some (.int .i64 x.2.c) ∧ W.cell? ⟨Bx, 1, none⟩ = some (.int .i64 x.2.r)) ∧ a' = { tmps := #[.agg #[.int .i64 s, .slice A xs.length c], .int .i64 cl, .int .i64 rq, .pointer (some ⟨w.heap.size, 0, none⟩), .pointer (some ⟨w.heap.size + 1, 0, none⟩), .pointer (some ⟨w.heap.size + 2, 0, none⟩), .pointer (some ⟨w.heap.size + 3, 0, none⟩), .int .i64 (x.1 : Int), .pointer (some ⟨Bx, 0, none⟩), .agg #[.int .i64 s, .slice A xs.length c], .bool true, .bool false, .pointer (some ⟨w.heap.size, 1, none⟩), .slice A xs.length c, .func (.func 33) #[] #[.pointer (some ⟨w5.heap.size, 0, none⟩)], .int .i64 (x.1 : Int), .agg #[.int .i64 x.2.c, .int .i64 x.2.r, .slice x.2.A x.2.op.length x.2.cap], undef, undef, undef, undef, undef, undef, undef, undef, undef, undef, undef, undef, undef, undef, undef], defers := [] })
      (fun x a' q X Y row hs hg hr => by obtain ⟨Bx, h1, ⟨h2, h3⟩, h4⟩ := hs; exact ⟨Bx, h1, ⟨cell_kept h2 hg (fun r e => (hr r e).2), cell_kept h3 hg (fun r e => (hr r e).2)⟩, h4⟩)
      ?assign ?body ?done ?stop
    case assign =>
      rintro l pre x W K ⟨⟨hp, i0, i1, i2, i3, i4⟩, hB⟩ hK
      have hsz := hB.size
      have bx := (Below.refl W0.heap.size W).alloc hsz (.cells #[.int .i64 x.2.c, .int .i64 x.2.r, .slice x.2.A x.2.op.length x.2.cap] 32)
      have bw := below_alloc W (.cells #[.int .i64 x.2.c, .int .i64 x.2.r, .slice x.2.A x.2.op.length x.2.cap] 32)
      have x0 := box_cell W #[.int .i64 x.2.c, .int .i64 x.2.r, .slice x.2.A x.2.op.length x.2.cap] 32 0 _ rfl
      have x1 := box_cell W #[.int .i64 x.2.c, .int .i64 x.2.r, .slice x.2.A x.2.op.length x.2.cap] 32 1 _ rfl
      gi_wp2
      exact hK _ _ ((KeepsOthers.alloc _ _).from _) bx ⟨⟨hp, cell_on bw i0, cell_on bw i1, cell_on bw i2, cell_on bw i3, froz_on bw (by omega) i4⟩, hB.trans bx⟩ ⟨W.heap.size, by omega, ⟨x0, x1⟩, rfl⟩
    case body =>
      rintro l pre x a' W hl ⟨r, hr⟩ ⟨⟨hp, i0, i1, i2, i3, i4⟩, hB⟩ ⟨Bx, hBx, ⟨x0, x1⟩, rfl⟩ hlt
      by_cases q1 : x.2.c = cl
      · by_cases q2 : x.2.r = rq
        · have hh : hits cl rq x.2.data = true := by simp [hits, En.data, q1, q2]
          have p1 : (x.2.c == cl) = true := by simpa using q1
          have p2 : (x.2.r == rq) = true := by simpa using q2
          clear q1 q2
          gi_wp2
          exact ⟨(KeepsOthers.setCell _ _ _).from _, ⟨rfl, pre, x, rfl, hp, hh, World.cell?_setCell_same' _ _ _ (by rw [i3]; rfl)⟩, (below_step bW0 hB).setCell (p := ⟨w.heap.size + 3, 0, none⟩) (Nat.le_add_right _ _) _⟩
        · have hh : hits cl rq x.2.data = false := by simp [hits, En.data, q2]
          have p1 : (x.2.c == cl) = true := by simpa using q1
          have p2 : (x.2.r == rq) = false := by simpa using q2
          clear q1 q2
          gi_wp2
          exact ⟨KeepsFrom.refl _ _, Below.refl _ _, ⟨fun p hp' => (List.mem_append.1 hp').elim (hp p) (fun e => by rw [List.mem_singleton.1 e]; exact hh), i0, i1, i2, i3, i4⟩, hB⟩
      · have hh : hits cl rq x.2.data = false := by simp [hits, En.data, q1]
        have p1 : (x.2.c == cl) = false := by simpa using q1
        clear q1
        gi_wp2
        exact ⟨KeepsFrom.refl _ _, Below.refl _ _, ⟨fun p hp' => (List.mem_append.1 hp').elim (hp p) (fun e => by rw [List.mem_singleton.1 e]; exact hh), i0, i1, i2, i3, i4⟩, hB⟩
    case done =>
      rintro D ys W hD rfl ⟨⟨hne, _, _, _, hcr, hfr⟩, hB⟩ hK
      gi_wp2
      have hK' := (KeepsOthers.setCell W ⟨w.heap.size + 3, 0, none⟩ (.int .i64 0)).same D _ hK rfl
      refine ⟨by simp, .inl ⟨_, _, rfl, run_takeDeferred hK', ?_⟩⟩
      have hc5 := cell_kept (World.cell?_setCell_same' W ⟨w.heap.size + 3, 0, none⟩ (.int .i64 0) (by rw [hcr]; rfl)) (grownBy_putObj' _ D (.deferred none)) (fun r e => by cases e; exact ⟨_, hK', rfl⟩)
      have hv : findL s L cl rq = 0 := by rw [hF, last_none h.2.2 hne]
      refine ⟨.int .i64 0, by simp [results, Try.results11, go_sem, hc5], by rw [hv], ((below_step bW0 hB).setCell (p := ⟨w.heap.size + 3, 0, none⟩) (Nat.le_add_right _ _) _).trans (belowK_b (w := w) (Nat.le_refl _) _ D _ _ (by omega) hK' rfl rfl)⟩
    case stop =>
      rintro D cc pre W hD ⟨k, hk, rfl⟩ ⟨⟨rfl, ini, lst, e1, e2, e3, hcr⟩, hB⟩ hK
      gi_wp2
      refine ⟨by simp, .inl ⟨_, _, rfl, run_takeDeferred hK, ?_⟩⟩
      have hc5 := cell_kept hcr (grownBy_putObj' _ D (.deferred none)) (fun r e => by cases e; exact ⟨_, hK, rfl⟩)
      obtain ⟨k', rfl⟩ : ∃ k', k = k' + 1 := by
        cases k with
        | zero => simp [dn] at e1
        | succ k' => exact ⟨k', rfl⟩
      rw [dn_succ] at e1
      obtain ⟨rfl, e5⟩ := List.append_inj' e1 rfl
      obtain rfl : dnAt xs k' = lst := by simpa using e5
      have hv : findL s L cl rq = wrap64 (wrap64 (s + ((dnAt xs k').1 : Int)) + 1) := by
        rw [hF, last_some h.2.2 (by omega) e2 e3]
        have hd : (dnAt xs k').1 = xs.length - 1 - k' := rfl
        rw [hd]
        have a1 : wrap64 (s + ((xs.length - 1 - k' : Nat) : Int)) = s + ((xs.length - 1 - k' : Nat) : Int) := wrap64_of _ (by omega) (by omega)
        rw [a1]
        dsimp only
        exact (wrap64_of (s + ((xs.length - 1 - k' : Nat) : Int) + 1) (by omega) (by omega)).symm
      refine ⟨.int .i64 (wrap64 (wrap64 (s + ((dnAt xs k').1 : Int)) + 1)), by simp [results, Try.results11, go_sem, hc5], by rw [hv], hB.trans (belowK_b (w := w) (Nat.le_refl _) _ D _ _ (by omega) hK rfl rfl)⟩
end Go.Proofs.Ytbfjhclibbonjaa
