import Derived.Test.YtkmeoobbjdbhjaaStoreF
import Derived.Test.YtkmeoobbjdbhjaaPlain1
namespace Go.Proofs.Ytkmeoobbjdbhjaa
open Go.RowKit Go.Cov Go.Lib
theorem cloneP_any {A : Option Addr} {c : Nat} {xs : List Pr} {w : World} (h : Els prEl w A xs) (hl : xs.length ≤ 2000000000000) :
    Calls Try.prog 31 #[.slice A xs.length c] w fun e w' => ∃ v, e = .returned v ∧ OwnEls prEl w' w.heap.size 42 v xs ∧ Below w.heap.size w w' := by
  have q22 : ∀ (w : World) (a : Option Addr) (n c n' c' : Nat), (binOp .eql 22 (.slice a n c) (.slice none n' c')).run Try.prog w = .ok (.bool a.isNone) w := fun w a n c n' c' => Lib.run_eql_slice_nil w _ _ a n c n' c' Try.underlying22
  cases A with
  | none =>
    have hl0 : xs = [] := by
      cases xs with
      | nil => rfl
      | cons x l => obtain ⟨ad, hA, _⟩ := h.at' 0 (by simp); cases hA
    subst hl0
    go_enter Try.func31, Try.ntmps31
    go_wp2_with fail
    go_ret
    exact ⟨_, rfl, OwnEls.nil _ _ _ _, Below.refl _ _⟩
  | some ad =>
    have hown : (w.alloc (.cells #[] 42)).ownsRow w.heap.size 42 2 (.slice (some ⟨w.heap.size, 0, none⟩) 0 0) 0 [] := World.ownsRow_made w #[] 0 (Nat.le_refl _) (by simp [maxLen]) rfl
    have h1 := h.below (below_alloc w (.cells #[] 42))
    have hoff := Off.old (T := prEl) (xs := xs) (v := .slice (some ⟨w.heap.size, 0, none⟩) 0 0) (fun a ha p hp => h.2 a ha p hp) (below_alloc w (.cells #[] 42)) (fun k hk => by simp [Value.ownBlock] at hk; omega)
    go_enter Try.func31, Try.ntmps31
    go_wp2_with (at_builtin; refine wpList_app rfl (.tmp 5) (.tmp 6) 22 rfl w.heap.size 42 Try.underlying22 infoP rfl (by decide) (.slice (some ⟨w.heap.size, 0, none⟩) 0 0) 0 _ rfl hown (some ad) xs.length c (xs.flatMap prEl.cells) rfl (prEl.flat_len _) h1.1 (prEl.flat_one _) (by omega) (by omega) (by simp) ?_; intro v2 w2 hin2 hg2 hat2; have hb2 : Below w.heap.size w w2 := ((below_alloc w _).grown hg2 (by simp) (by intro k hk; simp [Value.ownBlock] at hk; omega)))
    go_ret
    exact ⟨_, rfl, OwnEls.app (xs := []) (fun a ha => by simp at ha) hoff hin2 hg2 hat2, hb2⟩
theorem rd2 {w : World} {b : Nat} {x y : Value} (h0 : w.cell? ⟨b, 0, none⟩ = some x) (h1 : w.cell? ⟨b, 1, none⟩ = some y) : Rd w (some ⟨b, 0, none⟩) [x, y] := by
  intro j u hj
  refine ⟨_, rfl, ?_⟩
  rw [add_none]
  rcases j with _ | _ | j
  · cases hj; exact h0
  · cases hj; exact h1
  · simp at hj
def delP (l : List (List UInt8 × List UInt8)) (m : List UInt8) : List (List UInt8 × List UInt8) :=
  match l.findIdx? fun a => decide (a.1 = m) with
  | some i => l.take i ++ l.drop (i + 1)
  | none => l
theorem delP_ix (xs : List Pr) (m : List UInt8) : (ixF (fun a => decide (a.k = m)) xs = -1 ∧ delP (xs.map Pr.data) m = xs.map Pr.data) ∨ ∃ i, i < xs.length ∧ ixF (fun a => decide (a.k = m)) xs = (i : Int) ∧ delP (xs.map Pr.data) m = (xs.take i ++ xs.drop (i + 1)).map Pr.data := by
  unfold ixF delP
  rw [List.findIdx?_map]
  have hh : xs.findIdx? ((fun a => decide (a.1 = m)) ∘ Pr.data) = xs.findIdx? (fun a => decide (a.k = m)) := rfl
  rw [hh]
  cases h : xs.findIdx? (fun a => decide (a.k = m)) with
  | none => exact .inl ⟨rfl, rfl⟩
  | some i =>
    obtain ⟨hi, _⟩ := List.findIdx?_eq_some_iff_getElem.1 h
    exact .inr ⟨i, hi, rfl, by rw [List.map_append, List.map_take, List.map_drop]⟩
set_option maxRecDepth 100000 in
set_option maxHeartbeats 1000000 in
theorem del_any {A B : Option Addr} {c d : Nat} {xs : List Pr} {m : List UInt8} {w : World} (h : Els prEl w A xs) (hc : xs.length ≤ c) (hz : xs.length ≤ 1000000000000) (g : Rd w B (m.map byt)) :
    Calls Try.prog 13 #[.slice A xs.length c, .slice B m.length d] w fun e w' => ∃ v ys, e = .returned v ∧ ys.map Pr.data = delP (xs.map Pr.data) m ∧ OwnEls prEl w' w.heap.size 42 v ys ∧ (∀ y ∈ ys, y ∈ xs) ∧ Below w.heap.size w w' := by
  have KF := hid (find_any (c := c) (d := d) h (by omega) g)
  rcases delP_ix xs m with ⟨h1, h2⟩ | ⟨i, hi, h1, h2⟩
  · rw [h1] at KF
    have H2 := hid h2
    clear h1 h2
    go_enter Try.func13, Try.ntmps13
    go_wp2_with fail
    refine KF.out.mono ?_
    rintro e w2 ⟨rfl, hb2⟩
    go_wp2_with fail
    refine (cloneP_any (h.below hb2) (by omega)).mono ?_
    rintro e w3 ⟨v, rfl, own3, hb3⟩
    go_wp2_with fail
    go_ret
    exact ⟨_, xs, rfl, H2.out.symm, own3.mono hb2.size, (fun y hy => hy), below_step hb2 hb3⟩
  · rw [h1] at KF
    have H2 := hid h2
    clear h1 h2
    have e1 : IntKind.i64.wrap ((i : Int) + 1) = (i : Int) + 1 := wrap_of _ (by omega) (by omega)
    have sl1 := fun W => run_slice_max (P := Try.prog) Try.underlying22 infoP A xs.length c i .i64 .i64 (i : Int) (i : Int) rfl rfl (by omega) W
    have sl2 := fun W => run_slice_from (P := Try.prog) Try.underlying22 infoP A xs.length c (i + 1) .i64 ((i : Int) + 1) (by omega) (by omega) W
    have HL1 := hid (show (xs.take i).length = i by simp; omega)
    have HL2 := hid (show (xs.drop (i + 1)).length = xs.length - (i + 1) by simp)
    have E1 := hid (h.take i)
    have E2 := hid (h.cut (i + 1) hc)
    generalize hA2 : cutA A c (i + 1) 2 = A2 at sl2
    rw [show prEl.sz = 2 from rfl, hA2] at E2
    clear hA2
    go_enter Try.func13, Try.ntmps13
    go_wp2_with fail
    refine KF.out.mono ?_
    rintro e w2 ⟨rfl, hb2⟩
    go_upto_region 4 with fail
    refine wp_region_noPanic ?_
    refine wp_region_held_drew (S := (fun W => Below w2.heap.size w2 W)) (by kernel_rfl) ?_ (fun hHeld => ?_)
    · exact (Below.refl _ _).drew
    refine wpAnyH_take (i := 0) (oi := ?oi1) (v := ?v1) ?hi1 (by kernel_rfl) (by kernel_rfl) (by kernel_rfl) ?hQ1 ?hy1 (by assumption) ?hrest1
    case hi1 => (simp only [List.getElem?_toArray, List.getElem?_cons_zero]; try rfl)
    case hQ1 => exact fun _ _ _ h => h
    case hy1 =>
      refine Or.inl ⟨by rfl, ?_⟩
      (intro wq hSw; (try dsimp only at hSw); go_simp; try with_reducible rfl)
    (try simp only [Act.put, List.setIfInBounds_toArray, List.set_cons_zero, List.set_cons_succ])
    refine wpAnyH_take (i := 1) (oi := ?oi2) (v := ?v2) ?hi2 (by kernel_rfl) (by kernel_rfl) (by kernel_rfl) ?hQ2 ?hy2 (by assumption) ?hrest2
    case hi2 => (simp only [List.getElem?_toArray, List.getElem?_cons_succ, List.getElem?_cons_zero]; try rfl)
    case hQ2 => exact fun _ _ _ h => h
    case hy2 =>
      refine Or.inl ⟨by rfl, ?_⟩
      (intro wq hSw; (try dsimp only at hSw); go_simp; try with_reducible rfl)
    (try simp only [Act.put, List.setIfInBounds_toArray, List.set_cons_zero, List.set_cons_succ])
    refine wpAnyH_take (i := 2) (oi := ?oi3) (v := ?v3) ?hi3 (by kernel_rfl) (by kernel_rfl) (by kernel_rfl) ?hQ3 ?hy3 (by assumption) ?hrest3
    case hi3 => (simp only [List.getElem?_toArray, List.getElem?_cons_succ, List.getElem?_cons_zero]; try rfl)
    case hQ3 => exact fun _ _ _ h => h
    case hy3 =>
      refine Or.inl ⟨by rfl, ?_⟩
      (intro wq hSw; (try dsimp only at hSw); go_simp; try with_reducible rfl)
    (try simp only [Act.put, List.setIfInBounds_toArray, List.set_cons_zero, List.set_cons_succ])
    refine wpAnyH_take (i := 3) (oi := ?oi4) (v := ?v4) ?hi4 (by kernel_rfl) (by kernel_rfl) (by kernel_rfl) ?hQ4 ?hy4 (by assumption) ?hrest4
    case hi4 => (simp only [List.getElem?_toArray, List.getElem?_cons_succ, List.getElem?_cons_zero]; try rfl)
    case hQ4 => exact fun _ _ _ h => h
    case hy4 =>
      refine Or.inl ⟨by rfl, ?_⟩
      (intro wq hSw; (try dsimp only at hSw); go_simp; try with_reducible rfl)
    (try simp only [Act.put, List.setIfInBounds_toArray, List.set_cons_zero, List.set_cons_succ])
    refine wpAnyH_take (i := 4) (oi := ?oi5) (v := ?v5) ?hi5 (by kernel_rfl) (by kernel_rfl) (by kernel_rfl) ?hQ5 ?hy5 (by assumption) ?hrest5
    case hi5 => (simp only [List.getElem?_toArray, List.getElem?_cons_succ, List.getElem?_cons_zero]; try rfl)
    case hQ5 => exact fun _ _ _ h => h
    case hy5 =>
      refine Or.inl ⟨by rfl, ?_⟩
      (intro wq hSw; (try dsimp only at hSw); go_simp; try with_reducible rfl)
    (try simp only [Act.put, List.setIfInBounds_toArray, List.set_cons_zero, List.set_cons_succ])
    refine wpAnyH_take (i := 5) (oi := ?oi6) (v := ?v6) ?hi6 (by kernel_rfl) (by kernel_rfl) (by kernel_rfl) ?hQ6 ?hy6 (by assumption) ?hrest6
    case hi6 => (simp only [List.getElem?_toArray, List.getElem?_cons_succ, List.getElem?_cons_zero]; try rfl)
    case hQ6 => exact fun _ _ _ h => h
    case hy6 =>
      refine Or.inl ⟨by rfl, ?_⟩
      (intro wq hSw; (try dsimp only at hSw); go_simp; try with_reducible rfl)
    (try simp only [Act.put, List.setIfInBounds_toArray, List.set_cons_zero, List.set_cons_succ])
    refine wpAnyH_take (i := 6) (oi := ?oi7) (v := ?v7) ?hi7 (by kernel_rfl) (by kernel_rfl) (by kernel_rfl) ?hQ7 ?hy7 (by assumption) ?hrest7
    case hi7 => (simp only [List.getElem?_toArray, List.getElem?_cons_succ, List.getElem?_cons_zero]; try rfl)
    case hQ7 => exact fun _ _ _ h => h
    case hy7 =>
      refine Or.inl ⟨by rfl, ?_⟩
      (intro wq hSw; (try dsimp only at hSw); go_simp; try with_reducible rfl)
    (try simp only [Act.put, List.setIfInBounds_toArray, List.set_cons_zero, List.set_cons_succ])
    refine wpAnyH_take (i := 7) (oi := ?oi8) (v := ?v8) ?hi8 (by kernel_rfl) (by kernel_rfl) (by kernel_rfl) ?hQ8 ?hy8 (by assumption) ?hrest8
    case hi8 => (simp only [List.getElem?_toArray, List.getElem?_cons_succ, List.getElem?_cons_zero]; try rfl)
    case hQ8 => exact fun _ _ _ h => h
    case hy8 =>
      refine Or.inl ⟨by rfl, ?_⟩
      (intro wq hSw; (try dsimp only at hSw); go_simp; try with_reducible rfl)
    (try simp only [Act.put, List.setIfInBounds_toArray, List.set_cons_zero, List.set_cons_succ])
    refine wpAnyH_ready (rs := [8]) (by kernel_rfl) (by simp) ?_
    refine AllReadyH.cons (o := ?oi9) ?hi9 (fun K hK => ?hstep9) AllReadyH.nil
    case hi9 => (simp only [List.getElem?_toArray, List.getElem?_cons_succ, List.getElem?_cons_zero]; try rfl)
    go_simp
    ((first | refine newvar_Kd ?_ | refine newvar_K ?_); intro wx hbx nv nf nz; have n0 := nv 0 _ rfl; have n1 := nv 1 _ rfl; have hbx0 := hbx)
    refine hK.out _ _ ?_ (fun hHeld => ?_)
    · exact below_step hHeld hbx
    clear hK K
    (try simp only [Act.put, List.setIfInBounds_toArray, List.set_cons_zero, List.set_cons_succ])
    refine wpAnyH_ready (rs := [9]) (by kernel_rfl) (by simp) ?_
    refine AllReadyH.cons (o := ?oi10) ?hi10 (fun K hK => ?hstep10) AllReadyH.nil
    case hi10 => (simp only [List.getElem?_toArray, List.getElem?_cons_succ, List.getElem?_cons_zero]; try rfl)
    go_simp
    (have hT : Rd wx (some ⟨w2.heap.size, 0, none⟩) ([(A, i, xs.take i), (A2, c - (i + 1), xs.drop (i + 1))].map segV) := rd2 (by rw [segV, HL1.out]; exact n0) (by rw [segV, HL2.out]; exact n1); have bx := below_step hb2 hHeld; refine (concat_any hT (fun s hs => by rcases List.mem_cons.1 hs with rfl | hs; exact E1.out.below bx; rw [List.mem_singleton.1 hs]; exact E2.out.below bx) (by simp) (by simp [segAll]; omega)).mono ?_; rintro e w4 ⟨v4, rfl, own4, hb4⟩; have hbx := hb4)
    refine hK.out _ _ ?_ (fun hHeld => ?_)
    · exact below_step hHeld hbx
    clear hK K
    (try simp only [Act.put, List.setIfInBounds_toArray, List.set_cons_zero, List.set_cons_succ])
    refine wpAnyH_take (i := 10) (oi := ?oi11) (v := ?v11) ?hi11 (by kernel_rfl) (by kernel_rfl) (by kernel_rfl) ?hQ11 ?hy11 (by assumption) ?hrest11
    case hi11 => (simp only [List.getElem?_toArray, List.getElem?_cons_succ, List.getElem?_cons_zero]; try rfl)
    case hQ11 => exact fun _ _ _ h => h
    case hy11 =>
      refine Or.inl ⟨by rfl, ?_⟩
      (intro wq hSw; (try dsimp only at hSw); go_simp; try with_reducible rfl)
    (try simp only [Act.put, List.setIfInBounds_toArray, List.set_cons_zero, List.set_cons_succ])
    refine wpAnyH_done (by kernel_rfl) ?_ _
    refine NoPanic.normal ?_
    go_wp2_with fail
    go_ret
    refine ⟨_, _, rfl, by rw [H2.out]; simp [segAll], own4.mono (Nat.le_trans hb2.size hbx0.size), fun y hy => ?_, below_step hb2 hHeld⟩
    simp only [segAll, List.flatMap_cons, List.flatMap_nil, List.append_nil, List.mem_append] at hy
    rcases hy with hy | hy
    · exact List.mem_of_mem_take hy
    · exact List.mem_of_mem_drop hy
end Go.Proofs.Ytkmeoobbjdbhjaa
