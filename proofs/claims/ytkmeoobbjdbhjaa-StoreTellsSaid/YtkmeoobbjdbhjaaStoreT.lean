import Derived.Test.YtkmeoobbjdbhjaaPlain1
import Derived.Test.YtkmeoobbjdbhjaaStoreR0
namespace Go.Proofs.Ytkmeoobbjdbhjaa
open Go.RowKit Go.Cov Go.Lib
theorem own_take {w : World} {base : Nat} {e : TypeId} {size n c : Nat} {A : Option Addr} {xs : List Value} (h : w.ownsRow base e size (.slice A n c) n xs) {i : Nat} (hi : i ≤ n) : w.ownsRow base e size (.slice A i c) i (xs.take (i * size)) := by
  obtain ⟨hl, h⟩ := h
  have hle : i * size ≤ n * size := Nat.mul_le_mul_right _ hi
  refine ⟨by rw [List.length_take, hl]; omega, ?_⟩
  rcases h with ⟨hv, hn⟩ | ⟨g, cap, cur, hv, h1, h2, h3, h4, h5, h6⟩
  · injection hv with e1 e2 e3
    subst e1 e3
    obtain rfl : i = 0 := by omega
    exact .inl ⟨rfl, rfl⟩
  · injection hv with e1 e2 e3
    subst e1 e3
    refine .inr ⟨g, c, cur, rfl, h1, h2, by omega, h4, h5, ?_⟩
    rw [← h6, List.take_take, Nat.min_eq_left hle]
theorem OwnEls_take {α : Type} {T : El α} {w : World} {base : Nat} {e : TypeId} {A : Option Addr} {c : Nat} {xs : List α} (h : OwnEls T w base e (.slice A xs.length c) xs) {i : Nat} (hi : i ≤ xs.length) : OwnEls T w base e (.slice A i c) (xs.take i) := by
  refine ⟨?_, fun a ha p hp => ?_⟩
  · have := own_take h.1 hi
    rw [El.flat_take, List.length_take, Nat.min_eq_left hi]
    exact this
  · obtain ⟨h1, h2⟩ := h.2 a (List.mem_of_mem_take ha) p hp
    cases A <;> exact ⟨h1, h2⟩
theorem madeP_own (w : World) (t : TypeId) : (w.alloc (.cells #[] t)).ownsRow w.heap.size t 2 (.slice (some ⟨w.heap.size, 0, none⟩) 0 0) 0 [] := World.ownsRow_made w #[] 0 (Nat.le_refl _) (by simp [maxLen]) rfl
set_option maxRecDepth 100000 in
set_option maxHeartbeats 1600000 in
theorem rdel_any {A B : Option Addr} {c d : Nat} {xs : List Pr} {L : PL} {m : List UInt8} {w : World} (h : St w A c xs L) (hz : xs.length ≤ 1000000) (g : Rd w B (m.map byt)) :
    Calls Try.prog 22 #[.slice A xs.length c, .slice B m.length d] w fun e w' => ∃ C q ys, e = .returned (.slice C (ys : List Pr).length q) ∧ St w' C q ys (delP L m) ∧ Below w.heap.size w w' := by
  have KF := hid (rfindp_any (c := c) (d := d) h.1 (by omega) g)
  have hd := delP_ix xs m
  rw [h.2.2] at hd
  have OF := hid (fun W (hW : Below w.heap.size w W) (v : Value) (hv : ∀ kk, v.ownBlock = some kk → w.heap.size ≤ kk) (ys : List Pr) (hy : ∀ a ∈ ys, a ∈ xs) => Off.old (T := prEl) (xs := ys) (v := v) (fun a ha p hp => h.1.2 a (hy a ha) p hp) hW hv)
  have HD := hid h.2.2
  have hcap := h.2.1
  rcases hd with ⟨h1, h2⟩ | ⟨i, hi, h1, h2⟩
  · rw [h1] at KF
    have H2 := hid h2
    clear h1 h2
    go_enter Try.func22, Try.ntmps22
    go_wp2_with fail
    refine KF.out.mono ?_
    rintro e w2 ⟨rfl, hb2⟩
    have ba := below_alloc w2 (.cells #[] 42)
    have b3 := below_step hb2 ba
    have hE := (h.below b3).1
    have hoff := OF.out _ b3 (.slice (some ⟨w2.heap.size, 0, none⟩) 0 0) (fun k hk => by simp [Value.ownBlock] at hk; have := hb2.size; omega) xs (fun a ha => ha)
    go_wp2_with (at_builtin; refine wpList_app rfl (.tmp 10) (.tmp 11) 22 rfl w2.heap.size 42 Try.underlying22 infoP rfl (by decide) (.slice (some ⟨w2.heap.size, 0, none⟩) 0 0) 0 [] rfl (madeP_own w2 42) A xs.length c (xs.flatMap prEl.cells) rfl (prEl.flat_len _) hE.1 (prEl.flat_one _) (by omega) (by omega) (by simp) ?_; intro v5 w5 hin5 hg5 hat5; have hb5 : Below w2.heap.size w2 w5 := ba.grown hg5 (by simp) (by intro k hk; simp [Value.ownBlock] at hk; omega); have hnew := OwnEls.app (xs := []) (ys := xs) (fun a ha => by simp at ha) hoff hin5 hg5 hat5; obtain ⟨C, q, hv5, hs5⟩ := own_st hnew; rw [List.nil_append] at hv5 hs5; subst hv5)
    go_ret
    exact ⟨C, q, xs, rfl, by rw [H2.out, ← HD.out]; exact hs5, below_step hb2 hb5⟩
  · rw [h1] at KF
    have H2 := hid h2
    clear h1 h2
    have e1 : IntKind.i64.wrap ((i : Int) + 1) = (i : Int) + 1 := wrap_of _ (by omega) (by omega)
    have sl2 := fun W => run_slice_from (P := Try.prog) Try.underlying22 infoP A xs.length c (i + 1) .i64 ((i : Int) + 1) (by omega) (by omega) W
    have HL2 := hid (show (xs.drop (i + 1)).length = xs.length - (i + 1) by simp)
    have E2 := hid (fun W (hW : Below w.heap.size w W) => (h.below hW).1.cut (i + 1) hcap)
    generalize hA2 : cutA A c (i + 1) 2 = A2 at sl2
    rw [show prEl.sz = 2 from rfl, hA2] at E2
    clear hA2
    go_enter Try.func22, Try.ntmps22
    go_wp2_with fail
    refine KF.out.mono ?_
    rintro e w2 ⟨rfl, hb2⟩
    have ba := below_alloc w2 (.cells #[] 42)
    have b3 := below_step hb2 ba
    have hE := (h.below b3).1
    have hoff := OF.out _ b3 (.slice (some ⟨w2.heap.size, 0, none⟩) 0 0) (fun k hk => by simp [Value.ownBlock] at hk; have := hb2.size; omega) xs (fun a ha => ha)
    go_wp2_with (at_builtin; refine wpList_app rfl (.tmp 10) (.tmp 11) 22 rfl w2.heap.size 42 Try.underlying22 infoP rfl (by decide) (.slice (some ⟨w2.heap.size, 0, none⟩) 0 0) 0 [] rfl (madeP_own w2 42) A xs.length c (xs.flatMap prEl.cells) rfl (prEl.flat_len _) hE.1 (prEl.flat_one _) (by omega) (by omega) (by simp) ?_; intro v5 w5 hin5 hg5 hat5; have hb5 : Below w2.heap.size w2 w5 := ba.grown hg5 (by simp) (by intro k hk; simp [Value.ownBlock] at hk; omega); have hnew := OwnEls.app (xs := []) (ys := xs) (fun a ha => by simp at ha) hoff hin5 hg5 hat5; obtain ⟨C, q, hv5, hs5⟩ := own_st hnew; rw [List.nil_append] at hv5 hs5 hnew; subst hv5; have hq5 := hs5.2.1; have sl1 := fun W => run_slice_to (P := Try.prog) Try.underlying22 infoP C xs.length q i .i64 (i : Int) rfl (by omega) W)
    have hpre := OwnEls_take hnew (i := i) (by omega)
    have b5 := below_step hb2 hb5
    have hpl : (xs.take i).length = i := by simp; omega
    have HPL := hid hpl
    clear hpl
    have hws := hb2.size
    go_upto_region 5 with fail
    refine wp_region_noPanic ?_
    refine wp_region_held_drew (S := (fun W => Below w2.heap.size w5 W)) (by kernel_rfl) ?_ (fun hHeld => ?_)
    · exact (Below.refl _ _).drew
    refine wpAnyH_take (i := 0) (oi := ?oi1) (v := ?v1) ?hi1 (by kernel_rfl) (by kernel_rfl) (by kernel_rfl) ?hQ1 ?hy1 (by assumption) ?hrest1
    case hi1 => (simp only [List.getElem?_toArray, List.getElem?_cons_zero]; try rfl)
    case hQ1 => exact fun _ _ _ h => h
    case hy1 =>
      refine Or.inl ⟨by rfl, ?_⟩
      (intro wq hSw; (try dsimp only at hSw); go_simp; try with_reducible rfl)
    (try simp only [Act.put, List.setIfInBounds_toArray, List.set_cons_zero, List.set_cons_succ])
    refine wpAnyH_take (i := 1) (oi := ?oi2) (v := ?v2) ?hi2 (by kernel_rfl) (by kernel_rfl) (by kernel_rfl) ?hQ2 ?hy2 (by assumption) ?hrest2
    case hi2 => (simp only [List.getElem?_toArray, List.getElem?_cons_succ, List.getElem?_cons_zero]; try rfl)
    case hQ2 => exact fun _ _ _ h => h
    case hy2 =>
      refine Or.inl ⟨by rfl, ?_⟩
      (intro wq hSw; (try dsimp only at hSw); go_simp; try with_reducible rfl)
    (try simp only [Act.put, List.setIfInBounds_toArray, List.set_cons_zero, List.set_cons_succ])
    refine wpAnyH_take (i := 2) (oi := ?oi3) (v := ?v3) ?hi3 (by kernel_rfl) (by kernel_rfl) (by kernel_rfl) ?hQ3 ?hy3 (by assumption) ?hrest3
    case hi3 => (simp only [List.getElem?_toArray, List.getElem?_cons_succ, List.getElem?_cons_zero]; try rfl)
    case hQ3 => exact fun _ _ _ h => h
    case hy3 =>
      refine Or.inl ⟨by rfl, ?_⟩
      (intro wq hSw; (try dsimp only at hSw); go_simp; try with_reducible rfl)
    (try simp only [Act.put, List.setIfInBounds_toArray, List.set_cons_zero, List.set_cons_succ])
    refine wpAnyH_take (i := 3) (oi := ?oi4) (v := ?v4) ?hi4 (by kernel_rfl) (by kernel_rfl) (by kernel_rfl) ?hQ4 ?hy4 (by assumption) ?hrest4
    case hi4 => (simp only [List.getElem?_toArray, List.getElem?_cons_succ, List.getElem?_cons_zero]; try rfl)
    case hQ4 => exact fun _ _ _ h => h
    case hy4 =>
      refine Or.inl ⟨by rfl, ?_⟩
      (intro wq hSw; (try dsimp only at hSw); go_simp; try with_reducible rfl)
    (try simp only [Act.put, List.setIfInBounds_toArray, List.set_cons_zero, List.set_cons_succ])
    refine wpAnyH_take (i := 4) (oi := ?oi5) (v := ?v5) ?hi5 (by kernel_rfl) (by kernel_rfl) (by kernel_rfl) ?hQ5 ?hy5 (by assumption) ?hrest5
    case hi5 => (simp only [List.getElem?_toArray, List.getElem?_cons_succ, List.getElem?_cons_zero]; try rfl)
    case hQ5 => exact fun _ _ _ h => h
    case hy5 =>
      refine Or.inl ⟨by rfl, ?_⟩
      (intro wq hSw; (try dsimp only at hSw); go_simp; try with_reducible rfl)
    (try simp only [Act.put, List.setIfInBounds_toArray, List.set_cons_zero, List.set_cons_succ])
    refine wpAnyH_take (i := 5) (oi := ?oi6) (v := ?v6) ?hi6 (by kernel_rfl) (by kernel_rfl) (by kernel_rfl) ?hQ6 ?hy6 (by assumption) ?hrest6
    case hi6 => (simp only [List.getElem?_toArray, List.getElem?_cons_succ, List.getElem?_cons_zero]; try rfl)
    case hQ6 => exact fun _ _ _ h => h
    case hy6 =>
      refine Or.inl ⟨by rfl, ?_⟩
      (intro wq hSw; (try dsimp only at hSw); go_simp; try with_reducible rfl)
    (try simp only [Act.put, List.setIfInBounds_toArray, List.set_cons_zero, List.set_cons_succ])
    refine wpAnyH_take (i := 6) (oi := ?oi7) (v := ?v7) ?hi7 (by kernel_rfl) (by kernel_rfl) (by kernel_rfl) ?hQ7 ?hy7 (by assumption) ?hrest7
    case hi7 => (simp only [List.getElem?_toArray, List.getElem?_cons_succ, List.getElem?_cons_zero]; try rfl)
    case hQ7 => exact fun _ _ _ h => h
    case hy7 =>
      refine Or.inl ⟨by rfl, ?_⟩
      (intro wq hSw; (try dsimp only at hSw); go_simp; try with_reducible rfl)
    (try simp only [Act.put, List.setIfInBounds_toArray, List.set_cons_zero, List.set_cons_succ])
    refine wpAnyH_ready (rs := [7]) (by kernel_rfl) (by simp) ?_
    refine AllReadyH.cons (o := ?oi8) ?hi8 (fun K hK => ?hstep8) AllReadyH.nil
    case hi8 => (simp only [List.getElem?_toArray, List.getElem?_cons_succ, List.getElem?_cons_zero]; try rfl)
    (have bd := (Below.refl w5.heap.size w5).drew; have hpre := hpre.below bd; have b6 := below_step b5 bd; have hE2 := E2.out _ b6; have hbs : w2.heap.size ≤ w5.drew.heap.size := hb5.size; refine oper_app2 rfl (.tmp 18) (.tmp 22) 22 rfl w2.heap.size 42 Try.underlying22 infoP rfl (by decide) (.slice C i q) i ((xs.take i).flatMap prEl.cells) rfl (by have := hpre.1; rwa [HPL.out] at this) A2 (xs.length - (i + 1)) (c - (i + 1)) ((xs.drop (i + 1)).flatMap prEl.cells) rfl (by rw [prEl.flat_len, HL2.out]; rfl) hE2.1 (prEl.flat_one _) (by omega) (by omega) hbs ?_; intro v7 w7 hin7 hg7 hat7; have hnew7 := OwnEls.app (xs := xs.take i) (ys := xs.drop (i + 1)) hpre.2 (OF.out _ b6 _ (fun k hk => by have := (hpre.lt hk).1; omega) (xs.drop (i + 1)) (fun a ha => List.mem_of_mem_drop ha)) (by rw [HPL.out, HL2.out]; exact hin7) hg7 hat7; have hb7 := hHeld.grown hg7 hbs (fun k hk => (hpre.lt hk).1))
    refine hK.out _ _ ?_ (fun hHeld => ?_)
    · exact hb7
    clear hK K
    (try simp only [Act.put, List.setIfInBounds_toArray, List.set_cons_zero, List.set_cons_succ])
    refine wpAnyH_take (i := 8) (oi := ?oi9) (v := ?v9) ?hi9 (by kernel_rfl) (by kernel_rfl) (by kernel_rfl) ?hQ9 ?hy9 (by assumption) ?hrest9
    case hi9 => (simp only [List.getElem?_toArray, List.getElem?_cons_succ, List.getElem?_cons_zero]; try rfl)
    case hQ9 => exact fun _ _ _ h => h
    case hy9 =>
      refine Or.inl ⟨by rfl, ?_⟩
      (intro wq hSw; (try dsimp only at hSw); go_simp; try with_reducible rfl)
    (try simp only [Act.put, List.setIfInBounds_toArray, List.set_cons_zero, List.set_cons_succ])
    refine wpAnyH_done (by kernel_rfl) ?_ _
    refine NoPanic.normal ?_
    obtain ⟨D, d7, rfl, hs7⟩ := own_st hnew7
    go_wp2_with fail
    go_ret
    exact ⟨D, d7, _, rfl, by rw [H2.out]; exact hs7, below_step hb2 (hb5.trans hb7)⟩
end Go.Proofs.Ytkmeoobbjdbhjaa
