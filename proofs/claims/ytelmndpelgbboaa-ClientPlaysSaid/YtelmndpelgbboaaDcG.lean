import Derived.Test.YtelmndpelgbboaaDcF
namespace Go.Proofs.Ytelmndpelgbboaa
open Go.RowKit Go.Conc Go.Cov Go.Lib
theorem made2d (w : World) (t : TypeId) : (w.alloc (.cells #[] t)).ownsRow w.heap.size t 2 (.slice (some ⟨w.heap.size, 0, none⟩) 0 0) 0 [] := World.ownsRow_made w #[] 0 (Nat.le_refl _) (by simp [maxLen]) rfl
theorem take_none_d {w : World} {base cb : Nat} {s : Ds} (h : Dl w base cb s) (hx : s.ans = []) :
    Calls Try.prog 20 #[.pointer (some ⟨cb, 0, none⟩)] w fun e w' => e = .returned (.tuple #[.int .i64 0, .slice none 0 0, .bool false]) ∧ w' = w := by
  have c9 : w.cell? ⟨cb, 9, none⟩ = some (.slice s.aA 0 s.ac) := by have := (h.row.2 9 _ rfl).1; unfold Ds.L at this; rw [hx] at this; exact this
  go_enter Try.func20, Try.ntmps20
  go_wp2_with fail
  go_ret3
  exact ⟨rfl, rfl⟩
/-- its list made anew -/
theorem dl_new {w : World} {base db : Nat} {s : Ds} (h : Dl w base db s) {l : List An} {A : Option Addr} {c n : Nat} (hl : ∀ a ∈ l, a ∈ s.ans) (hown : OwnEls anEl w n 71 (.slice A l.length c) l) (hn : db < n) (hbn : base ≤ n) (hbd : s.body ≠ [] → ∀ ad, s.bA = some ad → ad.block < n) :
    Dl (w.setCell ⟨db, 9, none⟩ (.slice A l.length c)) base db { s with aA := A, ac := c, ans := l } ∧ Gro db (s.lb db) w (w.setCell ⟨db, 9, none⟩ (.slice A l.length c)) ∧ (lbOf db A = db ∨ n ≤ lbOf db A) := by
  have hG2 : Gro db (s.lb db) w (w.setCell ⟨db, 9, none⟩ (.slice A l.length c)) := Gro.set db (s.lb db) 9 w _
  have hG3 : Gro db db w (w.setCell ⟨db, 9, none⟩ (.slice A l.length c)) := Gro.set db db 9 w _
  have hlb : lbOf db A = db ∨ n ≤ lbOf db A := by
    cases hA : A with
    | none => exact .inl rfl
    | some ad => subst hA; exact .inr (hown.lt (k := ad.block) rfl).1
  have hane : ∀ ad, A = some ad → ad.block ≠ db := fun ad hA => by
    subst hA; have := (hown.lt (k := ad.block) rfl).1; omega
  refine ⟨⟨?_, ?_, h.lo, hane, ⟨sl_gro h.body.1 hG2 h.body.2, fun hb ad hA => ⟨(h.body.2 hb ad hA).1, fun e => ?_⟩⟩, fun a ha => h.ans a (hl a ha)⟩, hG2, hlb⟩
  · have := h.row.set 9 (by simp [Ds.cells]) (.slice A l.length c)
    have e : Ds.cells { s with aA := A, ac := c, ans := l } = s.cells.set 9 (.slice A l.length c) := by simp [Ds.cells, Ds.L]
    rw [e]; exact this
  · have e : Ds.L { s with aA := A, ac := c, ans := l } = .slice A l.length c := by simp [Ds.L]
    rw [e]
    exact own_els (hown.mono hbn) hG3 (fun k hk => by
      cases hA : A with
      | none => rw [hA] at hk; cases hk
      | some ad => rw [hA] at hk; have := hane ad hA; have := Option.some.inj hk; omega) (fun a ha => h.ans a (hl a ha))
  · have e : ad.block = lbOf db A := e
    rcases hlb with h1 | h1
    · exact (h.body.2 hb ad hA).1 (e.trans h1)
    · have := hbd hb ad hA; omega
/-- what the document's Take leaves -/
def TakD (base cb : Nat) (s : Ds) (x : An) (l : List An) (w : World) (e : Ending) (w' : World) : Prop := ∃ A c, e = .returned (.tuple #[.int .i64 x.n, .slice x.V x.l.length x.c, .bool true]) ∧ Dl w' base cb { s with aA := A, ac := c, ans := l } ∧ Gro cb (s.lb cb) w w' ∧ (lbOf cb A = cb ∨ w.heap.size ≤ lbOf cb A)
set_option maxRecDepth 100000 in
set_option maxHeartbeats 3200000 in
theorem take_some_d {w : World} {base cb : Nat} {s : Ds} (h : Dl w base cb s) {x : An} {l : List An} (hx : s.ans = x :: l) (hlen : s.ans.length ≤ 1024) :
    Calls Try.prog 20 #[.pointer (some ⟨cb, 0, none⟩)] w fun e w' => TakD base cb s x l w e w' := by
  have c9 : w.cell? ⟨cb, 9, none⟩ = some (.slice s.aA (l.length + 1) s.ac) := by have := (h.row.2 9 _ rfl).1; unfold Ds.L at this; rw [hx] at this; exact this
  have f9 : w.frozen? ⟨cb, 9, none⟩ = false := (h.row.2 9 _ rfl).2
  obtain ⟨A0, c0, hL, hc1, hc2, hE⟩ := h.own.rd
  unfold Ds.L at hL
  injection hL with e1 e2 e3
  subst e1; subst e3
  rw [hx] at hE hc1 hlen
  rw [List.length_cons] at hc1 hlen
  obtain ⟨ad, hA, hcell, _⟩ := hE.at' 0 (by simp)
  have n0 : w.cell? ad = some (.int .i64 x.n) := by have := hcell 0 _ rfl; simpa [anEl, Addr.add, An.val] using this
  have n1 : w.cell? ⟨ad.block, ad.off + 1, none⟩ = some (.slice x.V x.l.length x.c) := by have := hcell 1 _ rfl; simpa [anEl, Addr.add, An.val] using this
  have hcut := hE.cut 1 (c := s.ac) (by simpa using hc1)
  rw [List.drop_one, List.tail_cons] at hcut
  have sl2 := fun W => run_slice_from (P := Try.prog) Try.underlying51 infoAn s.aA (l.length + 1) s.ac 1 .i64 1 (by omega) (by omega) W
  obtain ⟨A2, hA2⟩ : ∃ A2, cutA s.aA s.ac 1 2 = A2 := ⟨_, rfl⟩
  rw [hA2] at sl2
  have hcut : Els anEl w A2 l := by rw [← hA2]; exact hcut
  have hlt := h.lt
  have hmem : ∀ a ∈ l, a ∈ s.ans := fun a ha => by rw [hx]; exact List.mem_cons_of_mem _ ha
  have hbd : s.body ≠ [] → ∀ ad, s.bA = some ad → ad.block < w.heap.size := fun hb ad hA => h.body.1.lt hb (k := ad.block) (by rw [hA]; rfl)
  have OF := hid (fun W (hW : Below w.heap.size w W) (v : Value) (hv : ∀ kk, v.ownBlock = some kk → w.heap.size ≤ kk) => Off.old (T := anEl) (xs := l) (v := v) (fun a ha p hp => (h.own.2 a (hmem a ha) p hp).1) hW hv)
  have HLX := hid hx
  clear hcell hA2 hE hx hc1
  rw [hA] at c9 sl2
  have ba := below_alloc w (.cells #[.int .i64 x.n, .slice x.V x.l.length x.c] 71)
  have x0 := box_cell w #[.int .i64 x.n, .slice x.V x.l.length x.c] 71 0 _ rfl
  have x1 := box_cell w #[.int .i64 x.n, .slice x.V x.l.length x.c] 71 1 _ rfl
  go_enter Try.func20, Try.ntmps20
  go_upto_region 4 with fail
  have n2 : (w.alloc (.cells #[.int .i64 x.n, .slice x.V x.l.length x.c] 71)).heap.size = w.heap.size + 1 := Array.size_push ..
  generalize (w.alloc (.cells #[.int .i64 x.n, .slice x.V x.l.length x.c] 71)) = w1 at ba x0 x1 n2 ⊢
  have hs1 := ba.size
  have HN2 := hid n2
  clear n2
  have c9 := cell_on ba c9
  have hC := h.gro ba
  have bb := below_alloc w1 (.cells #[] 71)
  have b2 := below_step ba bb
  have f9 := froz_on ba hlt.1 f9
  have c9b := cell_on bb c9
  have hown := made2d w1 71
  have hoff := OF.out _ b2 (.slice (some ⟨w1.heap.size, 0, none⟩) 0 0) (fun k hk => by simp [Value.ownBlock] at hk; omega)
  have hcut2 := hcut.below b2
  go_upto_region 5 with (at_builtin; refine wpList_app rfl (.tmp 19) (.tmp 24) 51 rfl w1.heap.size 71 Try.underlying51 infoAn rfl (by decide) (.slice (some ⟨w1.heap.size, 0, none⟩) 0 0) 0 [] rfl hown A2 l.length (s.ac - 1) (l.flatMap anEl.cells) rfl (anEl.flat_len _) hcut2.1 (anEl.flat_one _) (by omega) (by omega) (by simp) ?_; intro v5 w5 hin5 hg5 hat5; have hb5 : Below w1.heap.size w1 w5 := bb.grown hg5 (by simp) (by intro k hk; simp [Value.ownBlock] at hk; omega); have hnew := OwnEls.app (xs := []) (ys := l) (fun a ha => by simp at ha) hoff hin5 hg5 hat5; rw [List.nil_append] at hnew; obtain ⟨C, q, hv5, _⟩ := hnew.rd; subst hv5; have hC5 := hC.gro hb5; have c9 := cell_on hb5 c9; have f9 := froz_on hb5 (Nat.lt_of_lt_of_le hlt.1 hs1) f9; have x0 := cell_on hb5 x0; have x1 := cell_on hb5 x1)
  obtain ⟨T, hG5, hlb5⟩ := dl_new hC5 hmem hnew (Nat.lt_of_lt_of_le hlt.1 hs1) (by have := h.lo; omega) (fun hb ad hA => Nat.lt_of_lt_of_le (hbd hb ad hA) hs1)
  have hGf : Gro cb (s.lb cb) w _ := (Gro.of_below (below_step ba hb5)).trans hG5
  have y0 : (w5.setCell ⟨cb, 9, none⟩ (.slice C l.length q)).cell? ⟨w.heap.size, 0, none⟩ = some (.int .i64 x.n) := (World.cell?_setCell_other _ _ _ _ (fun e => by injection e with e _; omega)).trans x0
  have y1 : (w5.setCell ⟨cb, 9, none⟩ (.slice C l.length q)).cell? ⟨w.heap.size, 1, none⟩ = some (.slice x.V x.l.length x.c) := (World.cell?_setCell_other _ _ _ _ (fun e => by injection e with e _; omega)).trans x1
  clear c9b c9 f9 x0 x1 hin5 hg5 hat5 hnew hoff hcut2 hown hC hC5 sl2 hcut
  generalize w5.setCell ⟨cb, 9, none⟩ (.slice C l.length q) = w6 at T hG5 hGf y0 y1 ⊢
  have k0 := fun W (hW : Below w6.heap.size w6 W) => cell_on hW y0
  have k1 := fun W (hW : Below w6.heap.size w6 W) => cell_on hW y1
  refine wp_region_noPanic ?_
  refine wp_region_held_drew (S := (fun W => Below w6.heap.size w6 W)) (by kernel_rfl) ?_ (fun hHeld => ?_)
  · exact (Below.refl _ _).drew
  refine wpAnyH_take (i := 0) (oi := ?oi1) (v := ?v1) ?hi1 (by kernel_rfl) (by kernel_rfl) (by kernel_rfl) ?hQ1 ?hy1 (by assumption) ?hrest1
  case hi1 => (simp only [List.getElem?_toArray, List.getElem?_cons_zero]; try rfl)
  case hQ1 => exact fun _ _ _ h => h
  case hy1 =>
    refine Or.inl ⟨by rfl, ?_⟩
    (intro wq hSw; (try dsimp only at hSw); go_simp; try with_reducible rfl)
  (try simp only [Act.put, List.setIfInBounds_toArray, List.set_cons_zero, List.set_cons_succ])
  refine wpAnyH_take (i := 1) (oi := ?oi2) (v := ?v2) ?hi2 (by kernel_rfl) (by kernel_rfl) (by kernel_rfl) ?hQ2 ?hy2 (by assumption) ?hrest2
  case hi2 => (simp only [List.getElem?_toArray, List.getElem?_cons_succ, List.getElem?_cons_zero]; try rfl)
  case hQ2 => exact fun _ _ _ h => h
  case hy2 =>
    refine Or.inl ⟨by rfl, ?_⟩
    (intro wq hSw; (try dsimp only at hSw); go_simp; try with_reducible rfl)
  (try simp only [Act.put, List.setIfInBounds_toArray, List.set_cons_zero, List.set_cons_succ])
  refine wpAnyH_take (i := 2) (oi := ?oi3) (v := ?v3) ?hi3 (by kernel_rfl) (by kernel_rfl) (by kernel_rfl) ?hQ3 ?hy3 (by assumption) ?hrest3
  case hi3 => (simp only [List.getElem?_toArray, List.getElem?_cons_succ, List.getElem?_cons_zero]; try rfl)
  case hQ3 => exact fun _ _ _ h => h
  case hy3 =>
    refine Or.inl ⟨by rfl, ?_⟩
    (intro wq hSw; (try dsimp only at hSw); go_simp; try with_reducible rfl)
  (try simp only [Act.put, List.setIfInBounds_toArray, List.set_cons_zero, List.set_cons_succ])
  refine wpAnyH_take (i := 3) (oi := ?oi4) (v := ?v4) ?hi4 (by kernel_rfl) (by kernel_rfl) (by kernel_rfl) ?hQ4 ?hy4 (by assumption) ?hrest4
  case hi4 => (simp only [List.getElem?_toArray, List.getElem?_cons_succ, List.getElem?_cons_zero]; try rfl)
  case hQ4 => exact fun _ _ _ h => h
  case hy4 =>
    refine Or.inl ⟨by rfl, ?_⟩
    (intro wq hSw; (try dsimp only at hSw); go_simp; try with_reducible rfl)
  (try simp only [Act.put, List.setIfInBounds_toArray, List.set_cons_zero, List.set_cons_succ])
  refine wpAnyH_take (i := 4) (oi := ?oi5) (v := ?v5) ?hi5 (by kernel_rfl) (by kernel_rfl) (by kernel_rfl) ?hQ5 ?hy5 (by assumption) ?hrest5
  case hi5 => (simp only [List.getElem?_toArray, List.getElem?_cons_succ, List.getElem?_cons_zero]; try rfl)
  case hQ5 => exact fun _ _ _ h => h
  case hy5 =>
    refine Or.inl ⟨by rfl, ?_⟩
    (intro wq hSw; (try dsimp only at hSw); go_simp; try with_reducible rfl)
  (try simp only [Act.put, List.setIfInBounds_toArray, List.set_cons_zero, List.set_cons_succ])
  refine wpAnyH_take (i := 5) (oi := ?oi6) (v := ?v6) ?hi6 (by kernel_rfl) (by kernel_rfl) (by kernel_rfl) ?hQ6 ?hy6 (by assumption) ?hrest6
  case hi6 => (simp only [List.getElem?_toArray, List.getElem?_cons_succ, List.getElem?_cons_zero]; try rfl)
  case hQ6 => exact fun _ _ _ h => h
  case hy6 =>
    refine Or.inl ⟨by rfl, ?_⟩
    (intro wq hSw; (try dsimp only at hSw); go_simp; try with_reducible rfl)
  (try simp only [Act.put, List.setIfInBounds_toArray, List.set_cons_zero, List.set_cons_succ])
  refine wpAnyH_take (i := 6) (oi := ?oi7) (v := ?v7) ?hi7 (by kernel_rfl) (by kernel_rfl) (by kernel_rfl) ?hQ7 ?hy7 (by assumption) ?hrest7
  case hi7 => (simp only [List.getElem?_toArray, List.getElem?_cons_succ, List.getElem?_cons_zero]; try rfl)
  case hQ7 => exact fun _ _ _ h => h
  case hy7 =>
    refine Or.inl ⟨by rfl, ?_⟩
    (intro wq hSw; (try dsimp only at hSw); go_simp; try with_reducible rfl)
  (try simp only [Act.put, List.setIfInBounds_toArray, List.set_cons_zero, List.set_cons_succ])
  refine wpAnyH_done (by kernel_rfl) ?_ _
  refine NoPanic.normal ?_
  go_wp2_with fail
  go_ret3
  exact ⟨C, q, rfl, T.gro hHeld, hGf.trans (Gro.of_below hHeld), hlb5.imp id (fun e => Nat.le_trans hs1 e)⟩
end Go.Proofs.Ytelmndpelgbboaa
