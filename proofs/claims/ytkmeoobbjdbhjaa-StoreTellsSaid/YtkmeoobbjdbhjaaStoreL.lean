import Derived.Test.YtkmeoobbjdbhjaaStoreHead
namespace Go.Proofs.Ytkmeoobbjdbhjaa
open Go.RowKit Go.Cov Go.Lib
/-- a slice of pairs that reads L -/
def St (w : World) (A : Option Addr) (c : Nat) (xs : List Pr) (L : PL) : Prop := Els prEl w A xs ∧ xs.length ≤ c ∧ xs.map Pr.data = L
theorem St.below {w w' : World} {A : Option Addr} {c : Nat} {xs : List Pr} {L : PL} (h : St w A c xs L) (hb : Below w.heap.size w w') : St w' A c xs L := ⟨h.1.below hb, h.2⟩
theorem St.len {w : World} {A : Option Addr} {c : Nat} {xs : List Pr} {L : PL} (h : St w A c xs L) : xs.length = L.length := els_len h.2.2
def Okay (L : PL) : Prop := Up L ∧ Fit L ∧ sizeP L ≤ 2048
theorem okay_iff {L : PL} : rightP L = true ↔ Okay L := right_iff L
theorem Okay.len {L : PL} (h : Okay L) : L.length ≤ 256 := by
  have := h.2.2; unfold sizeP at this; omega
theorem right_st {A : Option Addr} {c : Nat} {xs : List Pr} {L : PL} {w : World} (h : St w A c xs L) (hz : xs.length ≤ 2932031007403) :
    Calls Try.prog 9 #[.slice A xs.length c] w fun e w' => e = .returned (.bool (rightP L)) ∧ Below w.heap.size w w' := by
  obtain ⟨h1, h2, rfl⟩ := h
  exact right_pairs h1 hz
theorem size_st {A : Option Addr} {c : Nat} {xs : List Pr} {L : PL} {w : World} (h : St w A c xs L) (hs : sizeP L ≤ 1000000000000000) :
    Calls Try.prog 14 #[.slice A xs.length c] w fun e w' => e = .returned (.int .i64 (sizeP L : Nat)) ∧ Below w.heap.size w w' := by
  obtain ⟨h1, h2, rfl⟩ := h
  exact size_pairs h1 hs
theorem get_st {A B : Option Addr} {c d : Nat} {xs : List Pr} {L : PL} {m : List UInt8} {w : World} (h : St w A c xs L) (hk : Okay L) (g : Rd w B (m.map byt)) :
    Calls Try.prog 12 #[.slice A xs.length c, .slice B m.length d] w fun e w' => ∃ D k r, e = .returned (.tuple #[.slice D (r : List UInt8).length k, .bool (getP L m).isSome]) ∧ (getP L m).getD [] = r ∧ Rd w' D (r.map byt) ∧ Below w.heap.size w w' := by
  have hl := h.len
  obtain ⟨h1, h2, rfl⟩ := h
  have := hk.len
  refine (get_any h1 (by omega) (fit_els hk.2.1) g).mono ?_
  rintro e w' ⟨D, k, r, rfl, h3, h4, h5⟩
  exact ⟨D, k, r, rfl, h3, own_rd h4, h5⟩
theorem own_st {w : World} {base : Nat} {t : TypeId} {v : Value} {ys : List Pr} (h : OwnEls prEl w base t v ys) : ∃ A c, v = .slice A ys.length c ∧ St w A c ys (ys.map Pr.data) := by
  obtain ⟨A, c, rfl, hc, _, he⟩ := h.rd
  exact ⟨A, c, rfl, he, hc, rfl⟩
theorem put_st {A B V : Option Addr} {c d f : Nat} {xs : List Pr} {L : PL} {m v : List UInt8} {w : World} (h : St w A c xs L) (hk : Okay L) (g : Rd w B (m.map byt)) (hm : m.length ≤ 140737488351236) (gv : Rd w V (v.map byt)) (hv : v.length ≤ 140737488351236) :
    Calls Try.prog 10 #[.slice A xs.length c, .slice B m.length d, .slice V v.length f] w fun e w' => ∃ C q ys, e = .returned (.tuple #[.slice C (ys : List Pr).length q, .int .i64 (putR L m v).2]) ∧ St w' C q ys (putR L m v).1 ∧ Below w.heap.size w w' := by
  have hl := h.len
  obtain ⟨h1, h2, rfl⟩ := h
  refine (put_any h1 h2 (Nat.le_trans hk.2.2 (by decide)) g hm gv hv).mono ?_
  rintro e w' ⟨vv, ys, rfl, h3, h4, _, h5⟩
  obtain ⟨C, q, rfl, h6⟩ := own_st h4
  rw [h3] at h6
  exact ⟨C, q, ys, rfl, h6, h5⟩
theorem del_st {A B : Option Addr} {c d : Nat} {xs : List Pr} {L : PL} {m : List UInt8} {w : World} (h : St w A c xs L) (hk : Okay L) (g : Rd w B (m.map byt)) :
    Calls Try.prog 13 #[.slice A xs.length c, .slice B m.length d] w fun e w' => ∃ C q ys, e = .returned (.slice C (ys : List Pr).length q) ∧ St w' C q ys (delP L m) ∧ Below w.heap.size w w' := by
  have hl := h.len
  have := hk.len
  obtain ⟨h1, h2, rfl⟩ := h
  refine (del_any h1 h2 (by omega) g).mono ?_
  rintro e w' ⟨vv, ys, rfl, h3, h4, _, h5⟩
  obtain ⟨C, q, rfl, h6⟩ := own_st h4
  rw [h3] at h6
  exact ⟨C, q, ys, rfl, h6, h5⟩
theorem put_pv {A B V : Option Addr} {c d f : Nat} {xs : List Pr} {L : PL} {m v : List UInt8} {w : World} (h : St w A c xs L) (hk : Okay L) (g : Rd w B (m.map byt)) (hm : m.length ≤ 140737488351236) (gv : Rd w V (v.map byt)) (hv : v.length ≤ 140737488351236) :
    Calls Try.prog 10 #[.slice A xs.length c, .slice B m.length d, .slice V v.length f] w fun e w' => ∃ C q ys, e = .returned (.tuple #[.slice C (ys : List Pr).length q, .int .i64 (putR L m v).2]) ∧ St w' C q ys (putR L m v).1 ∧ (∀ ad, C = some ad → w.heap.size ≤ ad.block ∧ ad.block < w'.heap.size) ∧ (∀ y ∈ ys, y ∈ xs ∨ PrNew w.heap.size w'.heap.size y) ∧ Below w.heap.size w w' := by
  obtain ⟨h1, h2, rfl⟩ := h
  refine (put_any h1 h2 (Nat.le_trans hk.2.2 (by decide)) g hm gv hv).mono ?_
  rintro e w' ⟨vv, ys, rfl, h3, h4, hp, h5⟩
  obtain ⟨C, q, rfl, h6⟩ := own_st h4
  rw [h3] at h6
  exact ⟨C, q, ys, rfl, h6, fun ad hA => h4.lt (k := ad.block) (by rw [hA]; rfl), hp, h5⟩
theorem del_pv {A B : Option Addr} {c d : Nat} {xs : List Pr} {L : PL} {m : List UInt8} {w : World} (h : St w A c xs L) (hk : Okay L) (g : Rd w B (m.map byt)) :
    Calls Try.prog 13 #[.slice A xs.length c, .slice B m.length d] w fun e w' => ∃ C q ys, e = .returned (.slice C (ys : List Pr).length q) ∧ St w' C q ys (delP L m) ∧ (∀ ad, C = some ad → w.heap.size ≤ ad.block ∧ ad.block < w'.heap.size) ∧ (∀ y ∈ ys, y ∈ xs) ∧ Below w.heap.size w w' := by
  have hl := h.len
  have := hk.len
  obtain ⟨h1, h2, rfl⟩ := h
  refine (del_any h1 h2 (by omega) g).mono ?_
  rintro e w' ⟨vv, ys, rfl, h3, h4, hp, h5⟩
  obtain ⟨C, q, rfl, h6⟩ := own_st h4
  rw [h3] at h6
  exact ⟨C, q, ys, rfl, h6, fun ad hA => h4.lt (k := ad.block) (by rw [hA]; rfl), hp, h5⟩
theorem data_at {xs : List Pr} {L : PL} (h : xs.map Pr.data = L) (k : Nat) (hk : k < xs.length) (hk' : k < L.length) : L[k].1 = xs[k].k ∧ L[k].2 = xs[k].v := by
  subst h
  rw [List.getElem_map]
  exact ⟨rfl, rfl⟩
set_option maxRecDepth 100000 in
set_option maxHeartbeats 1600000 in
theorem same_st {A B : Option Addr} {c d : Nat} {xs ys : List Pr} {L M : PL} {w : World} (h : St w A c xs L) (g : St w B d ys M) (hz : xs.length ≤ 140737488351236) :
    Calls Try.prog 11 #[.slice A xs.length c, .slice B ys.length d] w fun e w' => e = .returned (.bool (decide (L = M))) ∧ Below w.heap.size w w' := by
  have HH := hid h.len
  have HG := hid g.len
  by_cases hn : xs.length = ys.length
  · go_enter Try.func11, Try.ntmps11
    go_wp2_with fail
    go_loopw [5] (fun i W => ∃ k : Nat, k ≤ xs.length ∧ i = .int .i64 k ∧ (∀ j, j < k → L[j]? = M[j]?) ∧ Below w.heap.size w W) (fun i _ => xs.length - (RowKit.intOf i).toNat)
    case atStart => exact ⟨0, by omega, rfl, fun j hj => by omega, Below.refl _ _⟩
    case round =>
      obtain ⟨k, hk, rfl, hf, hb⟩ := hrel
      by_cases hlt : k < xs.length
      · obtain ⟨ad, rfl, h1, h2, h3, h4⟩ := pr_at (h.below hb).1 k hlt
        obtain ⟨bd, rfl, g1, g2, g3, g4⟩ := pr_at (g.below hb).1 k (by omega)
        have hkL : k < L.length := by have := HH.out; omega
        have hkM : k < M.length := by have := HG.out; omega
        obtain ⟨x1, x2⟩ := data_at h.2.2 k hlt hkL
        obtain ⟨y1, y2⟩ := data_at g.2.2 k (by omega) hkM
        have i1 : (k : Int) < xs.length := by omega
        have i2 : (k : Int) < ys.length := by omega
        have i3 : k < ys.length := by omega
        have hLM : L[k]? = M[k]? ↔ xs[k].k = ys[k].k ∧ xs[k].v = ys[k].v := by
          rw [List.getElem?_eq_getElem hkL, List.getElem?_eq_getElem hkM]
          rw [← x1, ← x2, ← y1, ← y2]
          constructor
          · intro e; injection e with e; rw [e]; exact ⟨rfl, rfl⟩
          · intro e; exact congrArg some (Prod.ext e.1 e.2)
        have HL := hid hLM
        clear hLM x1 x2 y1 y2 hkL hkM
        generalize hx : xs[k] = x at h1 h2 h3 h4 HL
        generalize hy : ys[k] = y at g1 g2 g3 g4 HL
        clear hx hy
        unfold Pr.key at h1 g1
        unfold Pr.val at h2 g2
        have cv1 := fun W (hW : Below wr.heap.size wr W) => conv_bs (P := Try.prog) Try.underlying23 Try.underlying5 Try.underlying9 (h3.below hW) x.kc
        have cv2 := fun W (hW : Below wr.heap.size wr W) => conv_bs (P := Try.prog) Try.underlying23 Try.underlying5 Try.underlying9 (h4.below hW) x.vc
        have cv3 := fun W (hW : Below wr.heap.size wr W) => conv_bs (P := Try.prog) Try.underlying23 Try.underlying5 Try.underlying9 (g3.below hW) y.kc
        have cv4 := fun W (hW : Below wr.heap.size wr W) => conv_bs (P := Try.prog) Try.underlying23 Try.underlying5 Try.underlying9 (g4.below hW) y.vc
        have h1q := fun W (hW : Below wr.heap.size wr W) => cell_on hW h1
        have h2q := fun W (hW : Below wr.heap.size wr W) => cell_on hW h2
        have g1q := fun W (hW : Below wr.heap.size wr W) => cell_on hW g1
        have g2q := fun W (hW : Below wr.heap.size wr W) => cell_on hW g2
        have s1 := str_beq x.k y.k
        have s2 := str_beq x.v y.v
        have Hf := hid hf
        have HN := hid hn
        clear hf hn
        go_upto_region 6 with fail
        by_cases e1 : x.k = y.k
        · by_cases e2 : x.v = y.v
          · have HE := hid (HL.out.2 ⟨e1, e2⟩)
            rw [decide_eq_true e1] at s1
            rw [decide_eq_true e2] at s2
            clear e1 e2
            refine wp_region_noPanic ?_
            refine wp_region_held_drew (S := (fun W => Below wr.heap.size wr W)) (by kernel_rfl) ?_ (fun hHeld => ?_)
            · exact (Below.refl _ _).drew
            refine wpAnyH_take (i := 0) (oi := ?oi1) (v := ?v1) ?hi1 (by kernel_rfl) (by kernel_rfl) (by kernel_rfl) ?hQ1 ?hy1 (by assumption) ?hrest1
            case hi1 => (simp only [List.getElem?_toArray, List.getElem?_cons_zero]; try rfl)
            case hQ1 => exact fun _ _ _ h => h
            case hy1 =>
              refine Or.inl ⟨by rfl, ?_⟩
              (intro wq hSw; (try dsimp only at hSw); go_simp; try with_reducible rfl)
            (try simp only [Act.put, List.setIfInBounds_toArray, List.set_cons_zero, List.set_cons_succ])
            refine wpAnyH_take (i := 1) (oi := ?oi2) (v := ?v2) ?hi2 (by kernel_rfl) (by kernel_rfl) (by kernel_rfl) ?hQ2 ?hy2 (by assumption) ?hrest2
            case hi2 => (simp only [List.getElem?_toArray, List.getElem?_cons_succ, List.getElem?_cons_zero]; try rfl)
            case hQ2 => exact fun _ _ _ h => h
            case hy2 =>
              refine Or.inl ⟨by rfl, ?_⟩
              (intro wq hSw; (try dsimp only at hSw); go_simp; try with_reducible rfl)
            (try simp only [Act.put, List.setIfInBounds_toArray, List.set_cons_zero, List.set_cons_succ])
            refine wpAnyH_take (i := 2) (oi := ?oi3) (v := ?v3) ?hi3 (by kernel_rfl) (by kernel_rfl) (by kernel_rfl) ?hQ3 ?hy3 (by assumption) ?hrest3
            case hi3 => (simp only [List.getElem?_toArray, List.getElem?_cons_succ, List.getElem?_cons_zero]; try rfl)
            case hQ3 => exact fun _ _ _ h => h
            case hy3 =>
              refine Or.inl ⟨by rfl, ?_⟩
              (intro wq hSw; (try dsimp only at hSw); go_simp; try with_reducible rfl)
            (try simp only [Act.put, List.setIfInBounds_toArray, List.set_cons_zero, List.set_cons_succ])
            refine wpAnyH_take (i := 3) (oi := ?oi4) (v := ?v4) ?hi4 (by kernel_rfl) (by kernel_rfl) (by kernel_rfl) ?hQ4 ?hy4 (by assumption) ?hrest4
            case hi4 => (simp only [List.getElem?_toArray, List.getElem?_cons_succ, List.getElem?_cons_zero]; try rfl)
            case hQ4 => exact fun _ _ _ h => h
            case hy4 =>
              refine Or.inl ⟨by rfl, ?_⟩
              (intro wq hSw; (try dsimp only at hSw); go_simp; try with_reducible rfl)
            (try simp only [Act.put, List.setIfInBounds_toArray, List.set_cons_zero, List.set_cons_succ])
            refine wpAnyH_take (i := 4) (oi := ?oi5) (v := ?v5) ?hi5 (by kernel_rfl) (by kernel_rfl) (by kernel_rfl) ?hQ5 ?hy5 (by assumption) ?hrest5
            case hi5 => (simp only [List.getElem?_toArray, List.getElem?_cons_succ, List.getElem?_cons_zero]; try rfl)
            case hQ5 => exact fun _ _ _ h => h
            case hy5 =>
              refine Or.inl ⟨by rfl, ?_⟩
              (intro wq hSw; (try dsimp only at hSw); go_simp; try with_reducible rfl)
            (try simp only [Act.put, List.setIfInBounds_toArray, List.set_cons_zero, List.set_cons_succ])
            refine wpAnyH_take (i := 5) (oi := ?oi6) (v := ?v6) ?hi6 (by kernel_rfl) (by kernel_rfl) (by kernel_rfl) ?hQ6 ?hy6 (by assumption) ?hrest6
            case hi6 => (simp only [List.getElem?_toArray, List.getElem?_cons_succ, List.getElem?_cons_zero]; try rfl)
            case hQ6 => exact fun _ _ _ h => h
            case hy6 =>
              refine Or.inl ⟨by rfl, ?_⟩
              (intro wq hSw; (try dsimp only at hSw); go_simp; try with_reducible rfl)
            (try simp only [Act.put, List.setIfInBounds_toArray, List.set_cons_zero, List.set_cons_succ])
            refine wpAnyH_take (i := 6) (oi := ?oi7) (v := ?v7) ?hi7 (by kernel_rfl) (by kernel_rfl) (by kernel_rfl) ?hQ7 ?hy7 (by assumption) ?hrest7
            case hi7 => (simp only [List.getElem?_toArray, List.getElem?_cons_succ, List.getElem?_cons_zero]; try rfl)
            case hQ7 => exact fun _ _ _ h => h
            case hy7 =>
              refine Or.inl ⟨by rfl, ?_⟩
              (intro wq hSw; (try dsimp only at hSw); go_simp; try with_reducible rfl)
            (try simp only [Act.put, List.setIfInBounds_toArray, List.set_cons_zero, List.set_cons_succ])
            refine wpAnyH_take (i := 7) (oi := ?oi8) (v := ?v8) ?hi8 (by kernel_rfl) (by kernel_rfl) (by kernel_rfl) ?hQ8 ?hy8 (by assumption) ?hrest8
            case hi8 => (simp only [List.getElem?_toArray, List.getElem?_cons_succ, List.getElem?_cons_zero]; try rfl)
            case hQ8 => exact fun _ _ _ h => h
            case hy8 =>
              refine Or.inl ⟨by rfl, ?_⟩
              (intro wq hSw; (try dsimp only at hSw); go_simp; try with_reducible rfl)
            (try simp only [Act.put, List.setIfInBounds_toArray, List.set_cons_zero, List.set_cons_succ])
            refine wpAnyH_take (i := 8) (oi := ?oi9) (v := ?v9) ?hi9 (by kernel_rfl) (by kernel_rfl) (by kernel_rfl) ?hQ9 ?hy9 (by assumption) ?hrest9
            case hi9 => (simp only [List.getElem?_toArray, List.getElem?_cons_succ, List.getElem?_cons_zero]; try rfl)
            case hQ9 => exact fun _ _ _ h => h
            case hy9 =>
              refine Or.inl ⟨by rfl, ?_⟩
              (intro wq hSw; (try dsimp only at hSw); go_simp; try with_reducible rfl)
            (try simp only [Act.put, List.setIfInBounds_toArray, List.set_cons_zero, List.set_cons_succ])
            refine wpAnyH_take (i := 9) (oi := ?oi10) (v := ?v10) ?hi10 (by kernel_rfl) (by kernel_rfl) (by kernel_rfl) ?hQ10 ?hy10 (by assumption) ?hrest10
            case hi10 => (simp only [List.getElem?_toArray, List.getElem?_cons_succ, List.getElem?_cons_zero]; try rfl)
            case hQ10 => exact fun _ _ _ h => h
            case hy10 =>
              refine Or.inl ⟨by rfl, ?_⟩
              (intro wq hSw; (try dsimp only at hSw); go_simp; try with_reducible rfl)
            (try simp only [Act.put, List.setIfInBounds_toArray, List.set_cons_zero, List.set_cons_succ])
            refine wpAnyH_take (i := 10) (oi := ?oi11) (v := ?v11) ?hi11 (by kernel_rfl) (by kernel_rfl) (by kernel_rfl) ?hQ11 ?hy11 (by assumption) ?hrest11
            case hi11 => (simp only [List.getElem?_toArray, List.getElem?_cons_succ, List.getElem?_cons_zero]; try rfl)
            case hQ11 => exact fun _ _ _ h => h
            case hy11 =>
              refine Or.inl ⟨by rfl, ?_⟩
              (intro wq hSw; (try dsimp only at hSw); go_simp; try with_reducible rfl)
            (try simp only [Act.put, List.setIfInBounds_toArray, List.set_cons_zero, List.set_cons_succ])
            refine wpAnyH_take (i := 11) (oi := ?oi12) (v := ?v12) ?hi12 (by kernel_rfl) (by kernel_rfl) (by kernel_rfl) ?hQ12 ?hy12 (by assumption) ?hrest12
            case hi12 => (simp only [List.getElem?_toArray, List.getElem?_cons_succ, List.getElem?_cons_zero]; try rfl)
            case hQ12 => exact fun _ _ _ h => h
            case hy12 =>
              refine Or.inl ⟨by rfl, ?_⟩
              (intro wq hSw; (try dsimp only at hSw); go_simp; try with_reducible rfl)
            (try simp only [Act.put, List.setIfInBounds_toArray, List.set_cons_zero, List.set_cons_succ])
            refine wpAnyH_take (i := 12) (oi := ?oi13) (v := ?v13) ?hi13 (by kernel_rfl) (by kernel_rfl) (by kernel_rfl) ?hQ13 ?hy13 (by assumption) ?hrest13
            case hi13 => (simp only [List.getElem?_toArray, List.getElem?_cons_succ, List.getElem?_cons_zero]; try rfl)
            case hQ13 => exact fun _ _ _ h => h
            case hy13 =>
              refine Or.inl ⟨by rfl, ?_⟩
              (intro wq hSw; (try dsimp only at hSw); go_simp; try with_reducible rfl)
            (try simp only [Act.put, List.setIfInBounds_toArray, List.set_cons_zero, List.set_cons_succ])
            refine wpAnyH_take (i := 13) (oi := ?oi14) (v := ?v14) ?hi14 (by kernel_rfl) (by kernel_rfl) (by kernel_rfl) ?hQ14 ?hy14 (by assumption) ?hrest14
            case hi14 => (simp only [List.getElem?_toArray, List.getElem?_cons_succ, List.getElem?_cons_zero]; try rfl)
            case hQ14 => exact fun _ _ _ h => h
            case hy14 =>
              refine Or.inl ⟨by rfl, ?_⟩
              (intro wq hSw; (try dsimp only at hSw); go_simp; try with_reducible rfl)
            (try simp only [Act.put, List.setIfInBounds_toArray, List.set_cons_zero, List.set_cons_succ])
            refine wpAnyH_take (i := 14) (oi := ?oi15) (v := ?v15) ?hi15 (by kernel_rfl) (by kernel_rfl) (by kernel_rfl) ?hQ15 ?hy15 (by assumption) ?hrest15
            case hi15 => (simp only [List.getElem?_toArray, List.getElem?_cons_succ, List.getElem?_cons_zero]; try rfl)
            case hQ15 => exact fun _ _ _ h => h
            case hy15 =>
              refine Or.inl ⟨by rfl, ?_⟩
              (intro wq hSw; (try dsimp only at hSw); go_simp; try with_reducible rfl)
            (try simp only [Act.put, List.setIfInBounds_toArray, List.set_cons_zero, List.set_cons_succ])
            refine wpAnyH_take (i := 15) (oi := ?oi16) (v := ?v16) ?hi16 (by kernel_rfl) (by kernel_rfl) (by kernel_rfl) ?hQ16 ?hy16 (by assumption) ?hrest16
            case hi16 => (simp only [List.getElem?_toArray, List.getElem?_cons_succ, List.getElem?_cons_zero]; try rfl)
            case hQ16 => exact fun _ _ _ h => h
            case hy16 =>
              refine Or.inl ⟨by rfl, ?_⟩
              (intro wq hSw; (try dsimp only at hSw); go_simp; try with_reducible rfl)
            (try simp only [Act.put, List.setIfInBounds_toArray, List.set_cons_zero, List.set_cons_succ])
            refine wpAnyH_take (i := 16) (oi := ?oi17) (v := ?v17) ?hi17 (by kernel_rfl) (by kernel_rfl) (by kernel_rfl) ?hQ17 ?hy17 (by assumption) ?hrest17
            case hi17 => (simp only [List.getElem?_toArray, List.getElem?_cons_succ, List.getElem?_cons_zero]; try rfl)
            case hQ17 => exact fun _ _ _ h => h
            case hy17 =>
              refine Or.inl ⟨by rfl, ?_⟩
              (intro wq hSw; (try dsimp only at hSw); go_simp; try with_reducible rfl)
            (try simp only [Act.put, List.setIfInBounds_toArray, List.set_cons_zero, List.set_cons_succ])
            refine wpAnyH_take (i := 17) (oi := ?oi18) (v := ?v18) ?hi18 (by kernel_rfl) (by kernel_rfl) (by kernel_rfl) ?hQ18 ?hy18 (by assumption) ?hrest18
            case hi18 => (simp only [List.getElem?_toArray, List.getElem?_cons_succ, List.getElem?_cons_zero]; try rfl)
            case hQ18 => exact fun _ _ _ h => h
            case hy18 =>
              refine Or.inl ⟨by rfl, ?_⟩
              (intro wq hSw; (try dsimp only at hSw); go_simp; try with_reducible rfl)
            (try simp only [Act.put, List.setIfInBounds_toArray, List.set_cons_zero, List.set_cons_succ])
            refine wpAnyH_take (i := 18) (oi := ?oi19) (v := ?v19) ?hi19 (by kernel_rfl) (by kernel_rfl) (by kernel_rfl) ?hQ19 ?hy19 (by assumption) ?hrest19
            case hi19 => (simp only [List.getElem?_toArray, List.getElem?_cons_succ, List.getElem?_cons_zero]; try rfl)
            case hQ19 => exact fun _ _ _ h => h
            case hy19 =>
              refine Or.inl ⟨by rfl, ?_⟩
              (intro wq hSw; (try dsimp only at hSw); go_simp; try with_reducible rfl)
            (try simp only [Act.put, List.setIfInBounds_toArray, List.set_cons_zero, List.set_cons_succ])
            refine wpAnyH_take (i := 19) (oi := ?oi20) (v := ?v20) ?hi20 (by kernel_rfl) (by kernel_rfl) (by kernel_rfl) ?hQ20 ?hy20 (by assumption) ?hrest20
            case hi20 => (simp only [List.getElem?_toArray, List.getElem?_cons_succ, List.getElem?_cons_zero]; try rfl)
            case hQ20 => exact fun _ _ _ h => h
            case hy20 =>
              refine Or.inl ⟨by rfl, ?_⟩
              (intro wq hSw; (try dsimp only at hSw); go_simp; try with_reducible rfl)
            (try simp only [Act.put, List.setIfInBounds_toArray, List.set_cons_zero, List.set_cons_succ])
            refine wpAnyH_take (i := 20) (oi := ?oi21) (v := ?v21) ?hi21 (by kernel_rfl) (by kernel_rfl) (by kernel_rfl) ?hQ21 ?hy21 (by assumption) ?hrest21
            case hi21 => (simp only [List.getElem?_toArray, List.getElem?_cons_succ, List.getElem?_cons_zero]; try rfl)
            case hQ21 => exact fun _ _ _ h => h
            case hy21 =>
              refine Or.inl ⟨by rfl, ?_⟩
              (intro wq hSw; (try dsimp only at hSw); go_simp; try with_reducible rfl)
            (try simp only [Act.put, List.setIfInBounds_toArray, List.set_cons_zero, List.set_cons_succ])
            refine wpAnyH_take (i := 21) (oi := ?oi22) (v := ?v22) ?hi22 (by kernel_rfl) (by kernel_rfl) (by kernel_rfl) ?hQ22 ?hy22 (by assumption) ?hrest22
            case hi22 => (simp only [List.getElem?_toArray, List.getElem?_cons_succ, List.getElem?_cons_zero]; try rfl)
            case hQ22 => exact fun _ _ _ h => h
            case hy22 =>
              refine Or.inl ⟨by rfl, ?_⟩
              (intro wq hSw; (try dsimp only at hSw); go_simp; try with_reducible rfl)
            (try simp only [Act.put, List.setIfInBounds_toArray, List.set_cons_zero, List.set_cons_succ])
            refine wpAnyH_take (i := 22) (oi := ?oi23) (v := ?v23) ?hi23 (by kernel_rfl) (by kernel_rfl) (by kernel_rfl) ?hQ23 ?hy23 (by assumption) ?hrest23
            case hi23 => (simp only [List.getElem?_toArray, List.getElem?_cons_succ, List.getElem?_cons_zero]; try rfl)
            case hQ23 => exact fun _ _ _ h => h
            case hy23 =>
              refine Or.inl ⟨by rfl, ?_⟩
              (intro wq hSw; (try dsimp only at hSw); go_simp; try with_reducible rfl)
            (try simp only [Act.put, List.setIfInBounds_toArray, List.set_cons_zero, List.set_cons_succ])
            refine wpAnyH_take (i := 23) (oi := ?oi24) (v := ?v24) ?hi24 (by kernel_rfl) (by kernel_rfl) (by kernel_rfl) ?hQ24 ?hy24 (by assumption) ?hrest24
            case hi24 => (simp only [List.getElem?_toArray, List.getElem?_cons_succ, List.getElem?_cons_zero]; try rfl)
            case hQ24 => exact fun _ _ _ h => h
            case hy24 =>
              refine Or.inl ⟨by rfl, ?_⟩
              (intro wq hSw; (try dsimp only at hSw); go_simp; try with_reducible rfl)
            (try simp only [Act.put, List.setIfInBounds_toArray, List.set_cons_zero, List.set_cons_succ])
            refine wpAnyH_take (i := 24) (oi := ?oi25) (v := ?v25) ?hi25 (by kernel_rfl) (by kernel_rfl) (by kernel_rfl) ?hQ25 ?hy25 (by assumption) ?hrest25
            case hi25 => (simp only [List.getElem?_toArray, List.getElem?_cons_succ, List.getElem?_cons_zero]; try rfl)
            case hQ25 => exact fun _ _ _ h => h
            case hy25 =>
              refine Or.inl ⟨by rfl, ?_⟩
              (intro wq hSw; (try dsimp only at hSw); go_simp; try with_reducible rfl)
            (try simp only [Act.put, List.setIfInBounds_toArray, List.set_cons_zero, List.set_cons_succ])
            refine wpAnyH_take (i := 25) (oi := ?oi26) (v := ?v26) ?hi26 (by kernel_rfl) (by kernel_rfl) (by kernel_rfl) ?hQ26 ?hy26 (by assumption) ?hrest26
            case hi26 => (simp only [List.getElem?_toArray, List.getElem?_cons_succ, List.getElem?_cons_zero]; try rfl)
            case hQ26 => exact fun _ _ _ h => h
            case hy26 =>
              refine Or.inl ⟨by rfl, ?_⟩
              (intro wq hSw; (try dsimp only at hSw); go_simp; try with_reducible rfl)
            (try simp only [Act.put, List.setIfInBounds_toArray, List.set_cons_zero, List.set_cons_succ])
            refine wpAnyH_take (i := 26) (oi := ?oi27) (v := ?v27) ?hi27 (by kernel_rfl) (by kernel_rfl) (by kernel_rfl) ?hQ27 ?hy27 (by assumption) ?hrest27
            case hi27 => (simp only [List.getElem?_toArray, List.getElem?_cons_succ, List.getElem?_cons_zero]; try rfl)
            case hQ27 => exact fun _ _ _ h => h
            case hy27 =>
              refine Or.inl ⟨by rfl, ?_⟩
              (intro wq hSw; (try dsimp only at hSw); go_simp; try with_reducible rfl)
            (try simp only [Act.put, List.setIfInBounds_toArray, List.set_cons_zero, List.set_cons_succ])
            refine wpAnyH_take (i := 27) (oi := ?oi28) (v := ?v28) ?hi28 (by kernel_rfl) (by kernel_rfl) (by kernel_rfl) ?hQ28 ?hy28 (by assumption) ?hrest28
            case hi28 => (simp only [List.getElem?_toArray, List.getElem?_cons_succ, List.getElem?_cons_zero]; try rfl)
            case hQ28 => exact fun _ _ _ h => h
            case hy28 =>
              refine Or.inl ⟨by rfl, ?_⟩
              (intro wq hSw; (try dsimp only at hSw); go_simp; try with_reducible rfl)
            (try simp only [Act.put, List.setIfInBounds_toArray, List.set_cons_zero, List.set_cons_succ])
            refine wpAnyH_done (by kernel_rfl) ?_ _
            refine NoPanic.normal ?_
            go_wp2_with fail
            go_roundw
            case rel => exact ⟨k + 1, by omega, by go_num, fun j hj => by
              by_cases hjk : j = k
              · subst hjk; exact HE.out
              · exact Hf.out j (by omega), hb.drew⟩
            case measure => simp [RowKit.intOf]; omega
          · have HE := hid (fun e => e2 (HL.out.1 e).2)
            rw [decide_eq_true e1] at s1
            rw [decide_eq_false e2] at s2
            clear e1 e2
            refine wp_region_noPanic ?_
            refine wp_region_held_drew (S := (fun W => Below wr.heap.size wr W)) (by kernel_rfl) ?_ (fun hHeld => ?_)
            · exact (Below.refl _ _).drew
            refine wpAnyH_take (i := 0) (oi := ?oi29) (v := ?v29) ?hi29 (by kernel_rfl) (by kernel_rfl) (by kernel_rfl) ?hQ29 ?hy29 (by assumption) ?hrest29
            case hi29 => (simp only [List.getElem?_toArray, List.getElem?_cons_zero]; try rfl)
            case hQ29 => exact fun _ _ _ h => h
            case hy29 =>
              refine Or.inl ⟨by rfl, ?_⟩
              (intro wq hSw; (try dsimp only at hSw); go_simp; try with_reducible rfl)
            (try simp only [Act.put, List.setIfInBounds_toArray, List.set_cons_zero, List.set_cons_succ])
            refine wpAnyH_take (i := 1) (oi := ?oi30) (v := ?v30) ?hi30 (by kernel_rfl) (by kernel_rfl) (by kernel_rfl) ?hQ30 ?hy30 (by assumption) ?hrest30
            case hi30 => (simp only [List.getElem?_toArray, List.getElem?_cons_succ, List.getElem?_cons_zero]; try rfl)
            case hQ30 => exact fun _ _ _ h => h
            case hy30 =>
              refine Or.inl ⟨by rfl, ?_⟩
              (intro wq hSw; (try dsimp only at hSw); go_simp; try with_reducible rfl)
            (try simp only [Act.put, List.setIfInBounds_toArray, List.set_cons_zero, List.set_cons_succ])
            refine wpAnyH_take (i := 2) (oi := ?oi31) (v := ?v31) ?hi31 (by kernel_rfl) (by kernel_rfl) (by kernel_rfl) ?hQ31 ?hy31 (by assumption) ?hrest31
            case hi31 => (simp only [List.getElem?_toArray, List.getElem?_cons_succ, List.getElem?_cons_zero]; try rfl)
            case hQ31 => exact fun _ _ _ h => h
            case hy31 =>
              refine Or.inl ⟨by rfl, ?_⟩
              (intro wq hSw; (try dsimp only at hSw); go_simp; try with_reducible rfl)
            (try simp only [Act.put, List.setIfInBounds_toArray, List.set_cons_zero, List.set_cons_succ])
            refine wpAnyH_take (i := 3) (oi := ?oi32) (v := ?v32) ?hi32 (by kernel_rfl) (by kernel_rfl) (by kernel_rfl) ?hQ32 ?hy32 (by assumption) ?hrest32
            case hi32 => (simp only [List.getElem?_toArray, List.getElem?_cons_succ, List.getElem?_cons_zero]; try rfl)
            case hQ32 => exact fun _ _ _ h => h
            case hy32 =>
              refine Or.inl ⟨by rfl, ?_⟩
              (intro wq hSw; (try dsimp only at hSw); go_simp; try with_reducible rfl)
            (try simp only [Act.put, List.setIfInBounds_toArray, List.set_cons_zero, List.set_cons_succ])
            refine wpAnyH_take (i := 4) (oi := ?oi33) (v := ?v33) ?hi33 (by kernel_rfl) (by kernel_rfl) (by kernel_rfl) ?hQ33 ?hy33 (by assumption) ?hrest33
            case hi33 => (simp only [List.getElem?_toArray, List.getElem?_cons_succ, List.getElem?_cons_zero]; try rfl)
            case hQ33 => exact fun _ _ _ h => h
            case hy33 =>
              refine Or.inl ⟨by rfl, ?_⟩
              (intro wq hSw; (try dsimp only at hSw); go_simp; try with_reducible rfl)
            (try simp only [Act.put, List.setIfInBounds_toArray, List.set_cons_zero, List.set_cons_succ])
            refine wpAnyH_take (i := 5) (oi := ?oi34) (v := ?v34) ?hi34 (by kernel_rfl) (by kernel_rfl) (by kernel_rfl) ?hQ34 ?hy34 (by assumption) ?hrest34
            case hi34 => (simp only [List.getElem?_toArray, List.getElem?_cons_succ, List.getElem?_cons_zero]; try rfl)
            case hQ34 => exact fun _ _ _ h => h
            case hy34 =>
              refine Or.inl ⟨by rfl, ?_⟩
              (intro wq hSw; (try dsimp only at hSw); go_simp; try with_reducible rfl)
            (try simp only [Act.put, List.setIfInBounds_toArray, List.set_cons_zero, List.set_cons_succ])
            refine wpAnyH_take (i := 6) (oi := ?oi35) (v := ?v35) ?hi35 (by kernel_rfl) (by kernel_rfl) (by kernel_rfl) ?hQ35 ?hy35 (by assumption) ?hrest35
            case hi35 => (simp only [List.getElem?_toArray, List.getElem?_cons_succ, List.getElem?_cons_zero]; try rfl)
            case hQ35 => exact fun _ _ _ h => h
            case hy35 =>
              refine Or.inl ⟨by rfl, ?_⟩
              (intro wq hSw; (try dsimp only at hSw); go_simp; try with_reducible rfl)
            (try simp only [Act.put, List.setIfInBounds_toArray, List.set_cons_zero, List.set_cons_succ])
            refine wpAnyH_take (i := 7) (oi := ?oi36) (v := ?v36) ?hi36 (by kernel_rfl) (by kernel_rfl) (by kernel_rfl) ?hQ36 ?hy36 (by assumption) ?hrest36
            case hi36 => (simp only [List.getElem?_toArray, List.getElem?_cons_succ, List.getElem?_cons_zero]; try rfl)
            case hQ36 => exact fun _ _ _ h => h
            case hy36 =>
              refine Or.inl ⟨by rfl, ?_⟩
              (intro wq hSw; (try dsimp only at hSw); go_simp; try with_reducible rfl)
            (try simp only [Act.put, List.setIfInBounds_toArray, List.set_cons_zero, List.set_cons_succ])
            refine wpAnyH_take (i := 8) (oi := ?oi37) (v := ?v37) ?hi37 (by kernel_rfl) (by kernel_rfl) (by kernel_rfl) ?hQ37 ?hy37 (by assumption) ?hrest37
            case hi37 => (simp only [List.getElem?_toArray, List.getElem?_cons_succ, List.getElem?_cons_zero]; try rfl)
            case hQ37 => exact fun _ _ _ h => h
            case hy37 =>
              refine Or.inl ⟨by rfl, ?_⟩
              (intro wq hSw; (try dsimp only at hSw); go_simp; try with_reducible rfl)
            (try simp only [Act.put, List.setIfInBounds_toArray, List.set_cons_zero, List.set_cons_succ])
            refine wpAnyH_take (i := 9) (oi := ?oi38) (v := ?v38) ?hi38 (by kernel_rfl) (by kernel_rfl) (by kernel_rfl) ?hQ38 ?hy38 (by assumption) ?hrest38
            case hi38 => (simp only [List.getElem?_toArray, List.getElem?_cons_succ, List.getElem?_cons_zero]; try rfl)
            case hQ38 => exact fun _ _ _ h => h
            case hy38 =>
              refine Or.inl ⟨by rfl, ?_⟩
              (intro wq hSw; (try dsimp only at hSw); go_simp; try with_reducible rfl)
            (try simp only [Act.put, List.setIfInBounds_toArray, List.set_cons_zero, List.set_cons_succ])
            refine wpAnyH_take (i := 10) (oi := ?oi39) (v := ?v39) ?hi39 (by kernel_rfl) (by kernel_rfl) (by kernel_rfl) ?hQ39 ?hy39 (by assumption) ?hrest39
            case hi39 => (simp only [List.getElem?_toArray, List.getElem?_cons_succ, List.getElem?_cons_zero]; try rfl)
            case hQ39 => exact fun _ _ _ h => h
            case hy39 =>
              refine Or.inl ⟨by rfl, ?_⟩
              (intro wq hSw; (try dsimp only at hSw); go_simp; try with_reducible rfl)
            (try simp only [Act.put, List.setIfInBounds_toArray, List.set_cons_zero, List.set_cons_succ])
            refine wpAnyH_take (i := 11) (oi := ?oi40) (v := ?v40) ?hi40 (by kernel_rfl) (by kernel_rfl) (by kernel_rfl) ?hQ40 ?hy40 (by assumption) ?hrest40
            case hi40 => (simp only [List.getElem?_toArray, List.getElem?_cons_succ, List.getElem?_cons_zero]; try rfl)
            case hQ40 => exact fun _ _ _ h => h
            case hy40 =>
              refine Or.inl ⟨by rfl, ?_⟩
              (intro wq hSw; (try dsimp only at hSw); go_simp; try with_reducible rfl)
            (try simp only [Act.put, List.setIfInBounds_toArray, List.set_cons_zero, List.set_cons_succ])
            refine wpAnyH_take (i := 12) (oi := ?oi41) (v := ?v41) ?hi41 (by kernel_rfl) (by kernel_rfl) (by kernel_rfl) ?hQ41 ?hy41 (by assumption) ?hrest41
            case hi41 => (simp only [List.getElem?_toArray, List.getElem?_cons_succ, List.getElem?_cons_zero]; try rfl)
            case hQ41 => exact fun _ _ _ h => h
            case hy41 =>
              refine Or.inl ⟨by rfl, ?_⟩
              (intro wq hSw; (try dsimp only at hSw); go_simp; try with_reducible rfl)
            (try simp only [Act.put, List.setIfInBounds_toArray, List.set_cons_zero, List.set_cons_succ])
            refine wpAnyH_take (i := 13) (oi := ?oi42) (v := ?v42) ?hi42 (by kernel_rfl) (by kernel_rfl) (by kernel_rfl) ?hQ42 ?hy42 (by assumption) ?hrest42
            case hi42 => (simp only [List.getElem?_toArray, List.getElem?_cons_succ, List.getElem?_cons_zero]; try rfl)
            case hQ42 => exact fun _ _ _ h => h
            case hy42 =>
              refine Or.inl ⟨by rfl, ?_⟩
              (intro wq hSw; (try dsimp only at hSw); go_simp; try with_reducible rfl)
            (try simp only [Act.put, List.setIfInBounds_toArray, List.set_cons_zero, List.set_cons_succ])
            refine wpAnyH_take (i := 14) (oi := ?oi43) (v := ?v43) ?hi43 (by kernel_rfl) (by kernel_rfl) (by kernel_rfl) ?hQ43 ?hy43 (by assumption) ?hrest43
            case hi43 => (simp only [List.getElem?_toArray, List.getElem?_cons_succ, List.getElem?_cons_zero]; try rfl)
            case hQ43 => exact fun _ _ _ h => h
            case hy43 =>
              refine Or.inl ⟨by rfl, ?_⟩
              (intro wq hSw; (try dsimp only at hSw); go_simp; try with_reducible rfl)
            (try simp only [Act.put, List.setIfInBounds_toArray, List.set_cons_zero, List.set_cons_succ])
            refine wpAnyH_take (i := 15) (oi := ?oi44) (v := ?v44) ?hi44 (by kernel_rfl) (by kernel_rfl) (by kernel_rfl) ?hQ44 ?hy44 (by assumption) ?hrest44
            case hi44 => (simp only [List.getElem?_toArray, List.getElem?_cons_succ, List.getElem?_cons_zero]; try rfl)
            case hQ44 => exact fun _ _ _ h => h
            case hy44 =>
              refine Or.inl ⟨by rfl, ?_⟩
              (intro wq hSw; (try dsimp only at hSw); go_simp; try with_reducible rfl)
            (try simp only [Act.put, List.setIfInBounds_toArray, List.set_cons_zero, List.set_cons_succ])
            refine wpAnyH_take (i := 16) (oi := ?oi45) (v := ?v45) ?hi45 (by kernel_rfl) (by kernel_rfl) (by kernel_rfl) ?hQ45 ?hy45 (by assumption) ?hrest45
            case hi45 => (simp only [List.getElem?_toArray, List.getElem?_cons_succ, List.getElem?_cons_zero]; try rfl)
            case hQ45 => exact fun _ _ _ h => h
            case hy45 =>
              refine Or.inl ⟨by rfl, ?_⟩
              (intro wq hSw; (try dsimp only at hSw); go_simp; try with_reducible rfl)
            (try simp only [Act.put, List.setIfInBounds_toArray, List.set_cons_zero, List.set_cons_succ])
            refine wpAnyH_take (i := 17) (oi := ?oi46) (v := ?v46) ?hi46 (by kernel_rfl) (by kernel_rfl) (by kernel_rfl) ?hQ46 ?hy46 (by assumption) ?hrest46
            case hi46 => (simp only [List.getElem?_toArray, List.getElem?_cons_succ, List.getElem?_cons_zero]; try rfl)
            case hQ46 => exact fun _ _ _ h => h
            case hy46 =>
              refine Or.inl ⟨by rfl, ?_⟩
              (intro wq hSw; (try dsimp only at hSw); go_simp; try with_reducible rfl)
            (try simp only [Act.put, List.setIfInBounds_toArray, List.set_cons_zero, List.set_cons_succ])
            refine wpAnyH_take (i := 18) (oi := ?oi47) (v := ?v47) ?hi47 (by kernel_rfl) (by kernel_rfl) (by kernel_rfl) ?hQ47 ?hy47 (by assumption) ?hrest47
            case hi47 => (simp only [List.getElem?_toArray, List.getElem?_cons_succ, List.getElem?_cons_zero]; try rfl)
            case hQ47 => exact fun _ _ _ h => h
            case hy47 =>
              refine Or.inl ⟨by rfl, ?_⟩
              (intro wq hSw; (try dsimp only at hSw); go_simp; try with_reducible rfl)
            (try simp only [Act.put, List.setIfInBounds_toArray, List.set_cons_zero, List.set_cons_succ])
            refine wpAnyH_take (i := 19) (oi := ?oi48) (v := ?v48) ?hi48 (by kernel_rfl) (by kernel_rfl) (by kernel_rfl) ?hQ48 ?hy48 (by assumption) ?hrest48
            case hi48 => (simp only [List.getElem?_toArray, List.getElem?_cons_succ, List.getElem?_cons_zero]; try rfl)
            case hQ48 => exact fun _ _ _ h => h
            case hy48 =>
              refine Or.inl ⟨by rfl, ?_⟩
              (intro wq hSw; (try dsimp only at hSw); go_simp; try with_reducible rfl)
            (try simp only [Act.put, List.setIfInBounds_toArray, List.set_cons_zero, List.set_cons_succ])
            refine wpAnyH_take (i := 20) (oi := ?oi49) (v := ?v49) ?hi49 (by kernel_rfl) (by kernel_rfl) (by kernel_rfl) ?hQ49 ?hy49 (by assumption) ?hrest49
            case hi49 => (simp only [List.getElem?_toArray, List.getElem?_cons_succ, List.getElem?_cons_zero]; try rfl)
            case hQ49 => exact fun _ _ _ h => h
            case hy49 =>
              refine Or.inl ⟨by rfl, ?_⟩
              (intro wq hSw; (try dsimp only at hSw); go_simp; try with_reducible rfl)
            (try simp only [Act.put, List.setIfInBounds_toArray, List.set_cons_zero, List.set_cons_succ])
            refine wpAnyH_take (i := 21) (oi := ?oi50) (v := ?v50) ?hi50 (by kernel_rfl) (by kernel_rfl) (by kernel_rfl) ?hQ50 ?hy50 (by assumption) ?hrest50
            case hi50 => (simp only [List.getElem?_toArray, List.getElem?_cons_succ, List.getElem?_cons_zero]; try rfl)
            case hQ50 => exact fun _ _ _ h => h
            case hy50 =>
              refine Or.inl ⟨by rfl, ?_⟩
              (intro wq hSw; (try dsimp only at hSw); go_simp; try with_reducible rfl)
            (try simp only [Act.put, List.setIfInBounds_toArray, List.set_cons_zero, List.set_cons_succ])
            refine wpAnyH_take (i := 22) (oi := ?oi51) (v := ?v51) ?hi51 (by kernel_rfl) (by kernel_rfl) (by kernel_rfl) ?hQ51 ?hy51 (by assumption) ?hrest51
            case hi51 => (simp only [List.getElem?_toArray, List.getElem?_cons_succ, List.getElem?_cons_zero]; try rfl)
            case hQ51 => exact fun _ _ _ h => h
            case hy51 =>
              refine Or.inl ⟨by rfl, ?_⟩
              (intro wq hSw; (try dsimp only at hSw); go_simp; try with_reducible rfl)
            (try simp only [Act.put, List.setIfInBounds_toArray, List.set_cons_zero, List.set_cons_succ])
            refine wpAnyH_take (i := 23) (oi := ?oi52) (v := ?v52) ?hi52 (by kernel_rfl) (by kernel_rfl) (by kernel_rfl) ?hQ52 ?hy52 (by assumption) ?hrest52
            case hi52 => (simp only [List.getElem?_toArray, List.getElem?_cons_succ, List.getElem?_cons_zero]; try rfl)
            case hQ52 => exact fun _ _ _ h => h
            case hy52 =>
              refine Or.inl ⟨by rfl, ?_⟩
              (intro wq hSw; (try dsimp only at hSw); go_simp; try with_reducible rfl)
            (try simp only [Act.put, List.setIfInBounds_toArray, List.set_cons_zero, List.set_cons_succ])
            refine wpAnyH_take (i := 24) (oi := ?oi53) (v := ?v53) ?hi53 (by kernel_rfl) (by kernel_rfl) (by kernel_rfl) ?hQ53 ?hy53 (by assumption) ?hrest53
            case hi53 => (simp only [List.getElem?_toArray, List.getElem?_cons_succ, List.getElem?_cons_zero]; try rfl)
            case hQ53 => exact fun _ _ _ h => h
            case hy53 =>
              refine Or.inl ⟨by rfl, ?_⟩
              (intro wq hSw; (try dsimp only at hSw); go_simp; try with_reducible rfl)
            (try simp only [Act.put, List.setIfInBounds_toArray, List.set_cons_zero, List.set_cons_succ])
            refine wpAnyH_take (i := 25) (oi := ?oi54) (v := ?v54) ?hi54 (by kernel_rfl) (by kernel_rfl) (by kernel_rfl) ?hQ54 ?hy54 (by assumption) ?hrest54
            case hi54 => (simp only [List.getElem?_toArray, List.getElem?_cons_succ, List.getElem?_cons_zero]; try rfl)
            case hQ54 => exact fun _ _ _ h => h
            case hy54 =>
              refine Or.inl ⟨by rfl, ?_⟩
              (intro wq hSw; (try dsimp only at hSw); go_simp; try with_reducible rfl)
            (try simp only [Act.put, List.setIfInBounds_toArray, List.set_cons_zero, List.set_cons_succ])
            refine wpAnyH_take (i := 26) (oi := ?oi55) (v := ?v55) ?hi55 (by kernel_rfl) (by kernel_rfl) (by kernel_rfl) ?hQ55 ?hy55 (by assumption) ?hrest55
            case hi55 => (simp only [List.getElem?_toArray, List.getElem?_cons_succ, List.getElem?_cons_zero]; try rfl)
            case hQ55 => exact fun _ _ _ h => h
            case hy55 =>
              refine Or.inl ⟨by rfl, ?_⟩
              (intro wq hSw; (try dsimp only at hSw); go_simp; try with_reducible rfl)
            (try simp only [Act.put, List.setIfInBounds_toArray, List.set_cons_zero, List.set_cons_succ])
            refine wpAnyH_take (i := 27) (oi := ?oi56) (v := ?v56) ?hi56 (by kernel_rfl) (by kernel_rfl) (by kernel_rfl) ?hQ56 ?hy56 (by assumption) ?hrest56
            case hi56 => (simp only [List.getElem?_toArray, List.getElem?_cons_succ, List.getElem?_cons_zero]; try rfl)
            case hQ56 => exact fun _ _ _ h => h
            case hy56 =>
              refine Or.inl ⟨by rfl, ?_⟩
              (intro wq hSw; (try dsimp only at hSw); go_simp; try with_reducible rfl)
            (try simp only [Act.put, List.setIfInBounds_toArray, List.set_cons_zero, List.set_cons_succ])
            refine wpAnyH_done (by kernel_rfl) ?_ _
            refine NoPanic.normal ?_
            go_wp2_with fail
            go_ret
            exact ⟨congrArg (fun b => Ending.returned (.bool b)) (decide_eq_false (fun e => HE.out (by rw [e]))).symm, hb.drew⟩
        · have HE := hid (fun e => e1 (HL.out.1 e).1)
          rw [decide_eq_false e1] at s1
          clear e1
          refine wp_region_noPanic ?_
          refine wp_region_held_drew (S := (fun W => Below wr.heap.size wr W)) (by kernel_rfl) ?_ (fun hHeld => ?_)
          · exact (Below.refl _ _).drew
          refine wpAnyH_take (i := 0) (oi := ?oi57) (v := ?v57) ?hi57 (by kernel_rfl) (by kernel_rfl) (by kernel_rfl) ?hQ57 ?hy57 (by assumption) ?hrest57
          case hi57 => (simp only [List.getElem?_toArray, List.getElem?_cons_zero]; try rfl)
          case hQ57 => exact fun _ _ _ h => h
          case hy57 =>
            refine Or.inl ⟨by rfl, ?_⟩
            (intro wq hSw; (try dsimp only at hSw); go_simp; try with_reducible rfl)
          (try simp only [Act.put, List.setIfInBounds_toArray, List.set_cons_zero, List.set_cons_succ])
          refine wpAnyH_take (i := 1) (oi := ?oi58) (v := ?v58) ?hi58 (by kernel_rfl) (by kernel_rfl) (by kernel_rfl) ?hQ58 ?hy58 (by assumption) ?hrest58
          case hi58 => (simp only [List.getElem?_toArray, List.getElem?_cons_succ, List.getElem?_cons_zero]; try rfl)
          case hQ58 => exact fun _ _ _ h => h
          case hy58 =>
            refine Or.inl ⟨by rfl, ?_⟩
            (intro wq hSw; (try dsimp only at hSw); go_simp; try with_reducible rfl)
          (try simp only [Act.put, List.setIfInBounds_toArray, List.set_cons_zero, List.set_cons_succ])
          refine wpAnyH_take (i := 2) (oi := ?oi59) (v := ?v59) ?hi59 (by kernel_rfl) (by kernel_rfl) (by kernel_rfl) ?hQ59 ?hy59 (by assumption) ?hrest59
          case hi59 => (simp only [List.getElem?_toArray, List.getElem?_cons_succ, List.getElem?_cons_zero]; try rfl)
          case hQ59 => exact fun _ _ _ h => h
          case hy59 =>
            refine Or.inl ⟨by rfl, ?_⟩
            (intro wq hSw; (try dsimp only at hSw); go_simp; try with_reducible rfl)
          (try simp only [Act.put, List.setIfInBounds_toArray, List.set_cons_zero, List.set_cons_succ])
          refine wpAnyH_take (i := 3) (oi := ?oi60) (v := ?v60) ?hi60 (by kernel_rfl) (by kernel_rfl) (by kernel_rfl) ?hQ60 ?hy60 (by assumption) ?hrest60
          case hi60 => (simp only [List.getElem?_toArray, List.getElem?_cons_succ, List.getElem?_cons_zero]; try rfl)
          case hQ60 => exact fun _ _ _ h => h
          case hy60 =>
            refine Or.inl ⟨by rfl, ?_⟩
            (intro wq hSw; (try dsimp only at hSw); go_simp; try with_reducible rfl)
          (try simp only [Act.put, List.setIfInBounds_toArray, List.set_cons_zero, List.set_cons_succ])
          refine wpAnyH_take (i := 4) (oi := ?oi61) (v := ?v61) ?hi61 (by kernel_rfl) (by kernel_rfl) (by kernel_rfl) ?hQ61 ?hy61 (by assumption) ?hrest61
          case hi61 => (simp only [List.getElem?_toArray, List.getElem?_cons_succ, List.getElem?_cons_zero]; try rfl)
          case hQ61 => exact fun _ _ _ h => h
          case hy61 =>
            refine Or.inl ⟨by rfl, ?_⟩
            (intro wq hSw; (try dsimp only at hSw); go_simp; try with_reducible rfl)
          (try simp only [Act.put, List.setIfInBounds_toArray, List.set_cons_zero, List.set_cons_succ])
          refine wpAnyH_take (i := 5) (oi := ?oi62) (v := ?v62) ?hi62 (by kernel_rfl) (by kernel_rfl) (by kernel_rfl) ?hQ62 ?hy62 (by assumption) ?hrest62
          case hi62 => (simp only [List.getElem?_toArray, List.getElem?_cons_succ, List.getElem?_cons_zero]; try rfl)
          case hQ62 => exact fun _ _ _ h => h
          case hy62 =>
            refine Or.inl ⟨by rfl, ?_⟩
            (intro wq hSw; (try dsimp only at hSw); go_simp; try with_reducible rfl)
          (try simp only [Act.put, List.setIfInBounds_toArray, List.set_cons_zero, List.set_cons_succ])
          refine wpAnyH_take (i := 6) (oi := ?oi63) (v := ?v63) ?hi63 (by kernel_rfl) (by kernel_rfl) (by kernel_rfl) ?hQ63 ?hy63 (by assumption) ?hrest63
          case hi63 => (simp only [List.getElem?_toArray, List.getElem?_cons_succ, List.getElem?_cons_zero]; try rfl)
          case hQ63 => exact fun _ _ _ h => h
          case hy63 =>
            refine Or.inl ⟨by rfl, ?_⟩
            (intro wq hSw; (try dsimp only at hSw); go_simp; try with_reducible rfl)
          (try simp only [Act.put, List.setIfInBounds_toArray, List.set_cons_zero, List.set_cons_succ])
          refine wpAnyH_take (i := 7) (oi := ?oi64) (v := ?v64) ?hi64 (by kernel_rfl) (by kernel_rfl) (by kernel_rfl) ?hQ64 ?hy64 (by assumption) ?hrest64
          case hi64 => (simp only [List.getElem?_toArray, List.getElem?_cons_succ, List.getElem?_cons_zero]; try rfl)
          case hQ64 => exact fun _ _ _ h => h
          case hy64 =>
            refine Or.inl ⟨by rfl, ?_⟩
            (intro wq hSw; (try dsimp only at hSw); go_simp; try with_reducible rfl)
          (try simp only [Act.put, List.setIfInBounds_toArray, List.set_cons_zero, List.set_cons_succ])
          refine wpAnyH_take (i := 8) (oi := ?oi65) (v := ?v65) ?hi65 (by kernel_rfl) (by kernel_rfl) (by kernel_rfl) ?hQ65 ?hy65 (by assumption) ?hrest65
          case hi65 => (simp only [List.getElem?_toArray, List.getElem?_cons_succ, List.getElem?_cons_zero]; try rfl)
          case hQ65 => exact fun _ _ _ h => h
          case hy65 =>
            refine Or.inl ⟨by rfl, ?_⟩
            (intro wq hSw; (try dsimp only at hSw); go_simp; try with_reducible rfl)
          (try simp only [Act.put, List.setIfInBounds_toArray, List.set_cons_zero, List.set_cons_succ])
          refine wpAnyH_take (i := 9) (oi := ?oi66) (v := ?v66) ?hi66 (by kernel_rfl) (by kernel_rfl) (by kernel_rfl) ?hQ66 ?hy66 (by assumption) ?hrest66
          case hi66 => (simp only [List.getElem?_toArray, List.getElem?_cons_succ, List.getElem?_cons_zero]; try rfl)
          case hQ66 => exact fun _ _ _ h => h
          case hy66 =>
            refine Or.inl ⟨by rfl, ?_⟩
            (intro wq hSw; (try dsimp only at hSw); go_simp; try with_reducible rfl)
          (try simp only [Act.put, List.setIfInBounds_toArray, List.set_cons_zero, List.set_cons_succ])
          refine wpAnyH_take (i := 10) (oi := ?oi67) (v := ?v67) ?hi67 (by kernel_rfl) (by kernel_rfl) (by kernel_rfl) ?hQ67 ?hy67 (by assumption) ?hrest67
          case hi67 => (simp only [List.getElem?_toArray, List.getElem?_cons_succ, List.getElem?_cons_zero]; try rfl)
          case hQ67 => exact fun _ _ _ h => h
          case hy67 =>
            refine Or.inl ⟨by rfl, ?_⟩
            (intro wq hSw; (try dsimp only at hSw); go_simp; try with_reducible rfl)
          (try simp only [Act.put, List.setIfInBounds_toArray, List.set_cons_zero, List.set_cons_succ])
          refine wpAnyH_take (i := 11) (oi := ?oi68) (v := ?v68) ?hi68 (by kernel_rfl) (by kernel_rfl) (by kernel_rfl) ?hQ68 ?hy68 (by assumption) ?hrest68
          case hi68 => (simp only [List.getElem?_toArray, List.getElem?_cons_succ, List.getElem?_cons_zero]; try rfl)
          case hQ68 => exact fun _ _ _ h => h
          case hy68 =>
            refine Or.inl ⟨by rfl, ?_⟩
            (intro wq hSw; (try dsimp only at hSw); go_simp; try with_reducible rfl)
          (try simp only [Act.put, List.setIfInBounds_toArray, List.set_cons_zero, List.set_cons_succ])
          refine wpAnyH_take (i := 12) (oi := ?oi69) (v := ?v69) ?hi69 (by kernel_rfl) (by kernel_rfl) (by kernel_rfl) ?hQ69 ?hy69 (by assumption) ?hrest69
          case hi69 => (simp only [List.getElem?_toArray, List.getElem?_cons_succ, List.getElem?_cons_zero]; try rfl)
          case hQ69 => exact fun _ _ _ h => h
          case hy69 =>
            refine Or.inl ⟨by rfl, ?_⟩
            (intro wq hSw; (try dsimp only at hSw); go_simp; try with_reducible rfl)
          (try simp only [Act.put, List.setIfInBounds_toArray, List.set_cons_zero, List.set_cons_succ])
          refine wpAnyH_take (i := 13) (oi := ?oi70) (v := ?v70) ?hi70 (by kernel_rfl) (by kernel_rfl) (by kernel_rfl) ?hQ70 ?hy70 (by assumption) ?hrest70
          case hi70 => (simp only [List.getElem?_toArray, List.getElem?_cons_succ, List.getElem?_cons_zero]; try rfl)
          case hQ70 => exact fun _ _ _ h => h
          case hy70 =>
            refine Or.inl ⟨by rfl, ?_⟩
            (intro wq hSw; (try dsimp only at hSw); go_simp; try with_reducible rfl)
          (try simp only [Act.put, List.setIfInBounds_toArray, List.set_cons_zero, List.set_cons_succ])
          refine wpAnyH_take (i := 14) (oi := ?oi71) (v := undef) ?hi71 (by kernel_rfl) (by kernel_rfl) (by kernel_rfl) ?hQ71 ?hy71 (by assumption) ?hrest71
          case hi71 => (simp only [List.getElem?_toArray, List.getElem?_cons_succ, List.getElem?_cons_zero]; try rfl)
          case hQ71 => exact fun _ _ _ h => h
          case hy71 => exact Or.inr ⟨by rfl, rfl⟩
          (try simp only [Act.put, List.setIfInBounds_toArray, List.set_cons_zero, List.set_cons_succ])
          refine wpAnyH_take (i := 15) (oi := ?oi72) (v := undef) ?hi72 (by kernel_rfl) (by kernel_rfl) (by kernel_rfl) ?hQ72 ?hy72 (by assumption) ?hrest72
          case hi72 => (simp only [List.getElem?_toArray, List.getElem?_cons_succ, List.getElem?_cons_zero]; try rfl)
          case hQ72 => exact fun _ _ _ h => h
          case hy72 => exact Or.inr ⟨by rfl, rfl⟩
          (try simp only [Act.put, List.setIfInBounds_toArray, List.set_cons_zero, List.set_cons_succ])
          refine wpAnyH_take (i := 16) (oi := ?oi73) (v := undef) ?hi73 (by kernel_rfl) (by kernel_rfl) (by kernel_rfl) ?hQ73 ?hy73 (by assumption) ?hrest73
          case hi73 => (simp only [List.getElem?_toArray, List.getElem?_cons_succ, List.getElem?_cons_zero]; try rfl)
          case hQ73 => exact fun _ _ _ h => h
          case hy73 => exact Or.inr ⟨by rfl, rfl⟩
          (try simp only [Act.put, List.setIfInBounds_toArray, List.set_cons_zero, List.set_cons_succ])
          refine wpAnyH_take (i := 17) (oi := ?oi74) (v := undef) ?hi74 (by kernel_rfl) (by kernel_rfl) (by kernel_rfl) ?hQ74 ?hy74 (by assumption) ?hrest74
          case hi74 => (simp only [List.getElem?_toArray, List.getElem?_cons_succ, List.getElem?_cons_zero]; try rfl)
          case hQ74 => exact fun _ _ _ h => h
          case hy74 => exact Or.inr ⟨by rfl, rfl⟩
          (try simp only [Act.put, List.setIfInBounds_toArray, List.set_cons_zero, List.set_cons_succ])
          refine wpAnyH_take (i := 18) (oi := ?oi75) (v := undef) ?hi75 (by kernel_rfl) (by kernel_rfl) (by kernel_rfl) ?hQ75 ?hy75 (by assumption) ?hrest75
          case hi75 => (simp only [List.getElem?_toArray, List.getElem?_cons_succ, List.getElem?_cons_zero]; try rfl)
          case hQ75 => exact fun _ _ _ h => h
          case hy75 => exact Or.inr ⟨by rfl, rfl⟩
          (try simp only [Act.put, List.setIfInBounds_toArray, List.set_cons_zero, List.set_cons_succ])
          refine wpAnyH_take (i := 19) (oi := ?oi76) (v := undef) ?hi76 (by kernel_rfl) (by kernel_rfl) (by kernel_rfl) ?hQ76 ?hy76 (by assumption) ?hrest76
          case hi76 => (simp only [List.getElem?_toArray, List.getElem?_cons_succ, List.getElem?_cons_zero]; try rfl)
          case hQ76 => exact fun _ _ _ h => h
          case hy76 => exact Or.inr ⟨by rfl, rfl⟩
          (try simp only [Act.put, List.setIfInBounds_toArray, List.set_cons_zero, List.set_cons_succ])
          refine wpAnyH_take (i := 20) (oi := ?oi77) (v := undef) ?hi77 (by kernel_rfl) (by kernel_rfl) (by kernel_rfl) ?hQ77 ?hy77 (by assumption) ?hrest77
          case hi77 => (simp only [List.getElem?_toArray, List.getElem?_cons_succ, List.getElem?_cons_zero]; try rfl)
          case hQ77 => exact fun _ _ _ h => h
          case hy77 => exact Or.inr ⟨by rfl, rfl⟩
          (try simp only [Act.put, List.setIfInBounds_toArray, List.set_cons_zero, List.set_cons_succ])
          refine wpAnyH_take (i := 21) (oi := ?oi78) (v := undef) ?hi78 (by kernel_rfl) (by kernel_rfl) (by kernel_rfl) ?hQ78 ?hy78 (by assumption) ?hrest78
          case hi78 => (simp only [List.getElem?_toArray, List.getElem?_cons_succ, List.getElem?_cons_zero]; try rfl)
          case hQ78 => exact fun _ _ _ h => h
          case hy78 => exact Or.inr ⟨by rfl, rfl⟩
          (try simp only [Act.put, List.setIfInBounds_toArray, List.set_cons_zero, List.set_cons_succ])
          refine wpAnyH_take (i := 22) (oi := ?oi79) (v := undef) ?hi79 (by kernel_rfl) (by kernel_rfl) (by kernel_rfl) ?hQ79 ?hy79 (by assumption) ?hrest79
          case hi79 => (simp only [List.getElem?_toArray, List.getElem?_cons_succ, List.getElem?_cons_zero]; try rfl)
          case hQ79 => exact fun _ _ _ h => h
          case hy79 => exact Or.inr ⟨by rfl, rfl⟩
          (try simp only [Act.put, List.setIfInBounds_toArray, List.set_cons_zero, List.set_cons_succ])
          refine wpAnyH_take (i := 23) (oi := ?oi80) (v := undef) ?hi80 (by kernel_rfl) (by kernel_rfl) (by kernel_rfl) ?hQ80 ?hy80 (by assumption) ?hrest80
          case hi80 => (simp only [List.getElem?_toArray, List.getElem?_cons_succ, List.getElem?_cons_zero]; try rfl)
          case hQ80 => exact fun _ _ _ h => h
          case hy80 => exact Or.inr ⟨by rfl, rfl⟩
          (try simp only [Act.put, List.setIfInBounds_toArray, List.set_cons_zero, List.set_cons_succ])
          refine wpAnyH_take (i := 24) (oi := ?oi81) (v := undef) ?hi81 (by kernel_rfl) (by kernel_rfl) (by kernel_rfl) ?hQ81 ?hy81 (by assumption) ?hrest81
          case hi81 => (simp only [List.getElem?_toArray, List.getElem?_cons_succ, List.getElem?_cons_zero]; try rfl)
          case hQ81 => exact fun _ _ _ h => h
          case hy81 => exact Or.inr ⟨by rfl, rfl⟩
          (try simp only [Act.put, List.setIfInBounds_toArray, List.set_cons_zero, List.set_cons_succ])
          refine wpAnyH_take (i := 25) (oi := ?oi82) (v := undef) ?hi82 (by kernel_rfl) (by kernel_rfl) (by kernel_rfl) ?hQ82 ?hy82 (by assumption) ?hrest82
          case hi82 => (simp only [List.getElem?_toArray, List.getElem?_cons_succ, List.getElem?_cons_zero]; try rfl)
          case hQ82 => exact fun _ _ _ h => h
          case hy82 => exact Or.inr ⟨by rfl, rfl⟩
          (try simp only [Act.put, List.setIfInBounds_toArray, List.set_cons_zero, List.set_cons_succ])
          refine wpAnyH_take (i := 26) (oi := ?oi83) (v := undef) ?hi83 (by kernel_rfl) (by kernel_rfl) (by kernel_rfl) ?hQ83 ?hy83 (by assumption) ?hrest83
          case hi83 => (simp only [List.getElem?_toArray, List.getElem?_cons_succ, List.getElem?_cons_zero]; try rfl)
          case hQ83 => exact fun _ _ _ h => h
          case hy83 => exact Or.inr ⟨by rfl, rfl⟩
          (try simp only [Act.put, List.setIfInBounds_toArray, List.set_cons_zero, List.set_cons_succ])
          refine wpAnyH_take (i := 27) (oi := ?oi84) (v := ?v84) ?hi84 (by kernel_rfl) (by kernel_rfl) (by kernel_rfl) ?hQ84 ?hy84 (by assumption) ?hrest84
          case hi84 => (simp only [List.getElem?_toArray, List.getElem?_cons_succ, List.getElem?_cons_zero]; try rfl)
          case hQ84 => exact fun _ _ _ h => h
          case hy84 =>
            refine Or.inl ⟨by rfl, ?_⟩
            (intro wq hSw; (try dsimp only at hSw); go_simp; try with_reducible rfl)
          (try simp only [Act.put, List.setIfInBounds_toArray, List.set_cons_zero, List.set_cons_succ])
          refine wpAnyH_done (by kernel_rfl) ?_ _
          refine NoPanic.normal ?_
          go_wp2_with fail
          go_ret
          exact ⟨congrArg (fun b => Ending.returned (.bool b)) (decide_eq_false (fun e => HE.out (by rw [e]))).symm, hb.drew⟩
      · obtain rfl : k = xs.length := by omega
        have HF := hid hf
        clear hf
        go_wp2_with fail
        go_ret
        refine ⟨congrArg (fun b => Ending.returned (.bool b)) (decide_eq_true ?_).symm, hb⟩
        have h1 := HH.out
        have h2 := HG.out
        refine List.ext_getElem? fun j => ?_
        by_cases hj : j < xs.length
        · exact HF.out j hj
        · rw [List.getElem?_eq_none (by omega), List.getElem?_eq_none (by omega)]
  · go_enter Try.func11, Try.ntmps11
    have q1 : ((xs.length : Int) != ys.length) = true := by simp; omega
    go_wp2_with fail
    go_ret
    refine ⟨congrArg (fun b => Ending.returned (.bool b)) (decide_eq_false fun e => ?_).symm, Below.refl _ _⟩
    have h1 := HH.out
    have h2 := HG.out
    rw [e] at h1
    omega
end Go.Proofs.Ytkmeoobbjdbhjaa
