import Derived.Test.YtlekoeddcjjjdaaJourB
namespace Go.Proofs.Ytlekoeddcjjjdaa
open Go.RowKit Go.Cov Go.Lib
variable {Bk : Nat → Prop}
theorem own_takej {w : World} {base : Nat} {e : TypeId} {size n c : Nat} {A : Option Addr} {xs : List Value} (h : w.ownsRow base e size (.slice A n c) n xs) {i : Nat} (hi : i ≤ n) : w.ownsRow base e size (.slice A i c) i (xs.take (i * size)) := by
  obtain ⟨hl, h⟩ := h
  have hle : i * size ≤ n * size := Nat.mul_le_mul_right _ hi
  refine ⟨by rw [List.length_take, hl]; omega, ?_⟩
  rcases h with ⟨hv, hn⟩ | ⟨g, cap, cur, hv, h1, h2, h3, h4, h5, h6⟩
  · injection hv with e1 e2 e3
    subst e1 e3
    obtain rfl : i = 0 := by omega
    exact .inl ⟨rfl, rfl⟩
  · injection hv with e1 e2 e3
    subst e1 e3
    refine .inr ⟨g, c, cur, rfl, h1, h2, by omega, h4, h5, ?_⟩
    rw [← h6, List.take_take, Nat.min_eq_left hle]
theorem set1_any {w : World} {jb wb pb : Nat} {v u : Value} (hw : w.cell? ⟨wb, 0, none⟩ = some v) (hp : w.cell? ⟨pb, 0, none⟩ = some (.pointer (some ⟨jb, 0, none⟩))) (hj : w.cell? ⟨jb, 0, none⟩ = some u) (hf : w.frozen? ⟨jb, 0, none⟩ = false) {A : Option Addr} {n c : Nat} (hv : v = .slice A n c) :
    Calls Try.prog 43 #[.pointer (some ⟨wb, 0, none⟩), .pointer (some ⟨pb, 0, none⟩)] w fun e w' => (∃ x, e = .returned x) ∧ w' = w.setCell ⟨jb, 0, none⟩ v := by
  subst hv
  go_enter Try.func43, Try.ntmps43
  go_wp2_with fail
  refine bodyPost_end (results_none rfl _ _ _) rfl ?_
  exact ⟨⟨_, rfl⟩, rfl⟩
theorem ownBlock_len {A : Option Addr} {n m c d : Nat} : (Value.slice A n c).ownBlock = (Value.slice A m d).ownBlock := by cases A <;> rfl
/-- one step back: what the journal is when the last way back has been gone and struck off -/
theorem jn_undone {w : World} {base jb : Nat} {hist : List PL} {X : PL} {A U : Option Addr} {c q : Nat} {xs : List Pr} {fs : List Value} {A' : Option Addr} {c' : Nat} {xs' : List Pr}
    (hc : w.cell? ⟨jb, 0, none⟩ = some (.slice A xs.length c) ∧ w.cell? ⟨jb, 1, none⟩ = some (.slice U (hist.length + 1) q) ∧ w.frozen? ⟨jb, 0, none⟩ = false ∧ w.frozen? ⟨jb, 1, none⟩ = false)
    (h5 : base ≤ jb ∧ jb < w.heap.size ∧ (Value.slice U (hist.length + 1) q).ownBlock ≠ some jb ∧ Bk jb ∧ ∀ k, (Value.slice U (hist.length + 1) q).ownBlock = some k → Bk k) (h9 : w.ownsRow base 1 1 (.slice U (hist.length + 1) q) (hist.length + 1) fs)
    (h10 : ∀ (i : Nat) (L : PL), (hist ++ [X])[i]? = some L → ∃ f : Value, fs[i]? = some f ∧ GBack Bk w jb (.slice U (hist.length + 1) q) f L) (hg : GSt Bk w jb (.slice U (hist.length + 1) q) A' c' xs' X) :
    JnB Bk ((w.setCell ⟨jb, 0, none⟩ (.slice A' xs'.length c')).setCell ⟨jb, 1, none⟩ (.slice U hist.length q)) base jb hist X ∧ Keep w ((w.setCell ⟨jb, 0, none⟩ (.slice A' xs'.length c')).setCell ⟨jb, 1, none⟩ (.slice U hist.length q)) jb := by
  obtain ⟨j0, j1, f0, f1⟩ := hc
  obtain ⟨h5, h6, h7, hq⟩ := h5
  have hset : ∀ k, k ≠ jb → ((w.setCell ⟨jb, 0, none⟩ (.slice A' xs'.length c')).setCell ⟨jb, 1, none⟩ (.slice U hist.length q)).heap[k]? = w.heap[k]? := fun k hk => by
    rw [heap_set hk, heap_set hk]
  have hsize : ((w.setCell ⟨jb, 0, none⟩ (.slice A' xs'.length c')).setCell ⟨jb, 1, none⟩ (.slice U hist.length q)).heap.size = w.heap.size := by simp
  have hob : (Value.slice U hist.length q).ownBlock = (Value.slice U (hist.length + 1) q).ownBlock := ownBlock_len
  have hkeep : ∀ k, Gd Bk w jb (.slice U (hist.length + 1) q) k → ((w.setCell ⟨jb, 0, none⟩ (.slice A' xs'.length c')).setCell ⟨jb, 1, none⟩ (.slice U hist.length q)).heap[k]? = w.heap[k]? ∧ Gd Bk ((w.setCell ⟨jb, 0, none⟩ (.slice A' xs'.length c')).setCell ⟨jb, 1, none⟩ (.slice U hist.length q)) jb (.slice U hist.length q) k := fun k hk =>
    ⟨hset k hk.2.1, by rw [hsize]; exact hk.1, hk.2.1, by rw [hob]; exact hk.2.2.1, hk.2.2.2⟩
  have hc1 : ((w.setCell ⟨jb, 0, none⟩ (.slice A' xs'.length c')).setCell ⟨jb, 1, none⟩ (.slice U hist.length q)).cell? ⟨jb, 1, none⟩ = some (.slice U hist.length q) := World.cell?_setCell_same' _ _ _ (by rw [World.cell?_setCell_other _ _ _ _ (by simp), j1]; rfl)
  refine ⟨⟨A', c', xs', .slice U hist.length q, fs.take hist.length, ⟨?_, hc1, ?_, ?_⟩, ⟨h5, by rw [hsize]; exact h6, by rw [hob]; exact h7, hq.1, fun k hk => hq.2 k (by rw [← hob]; exact hk)⟩, hg.keep hkeep, ?_, fun i L hi => ?_⟩, fun k hk => ?_⟩
  · rw [World.cell?_setCell_other _ _ _ _ (by simp)]
    exact World.cell?_setCell_same' _ _ _ (by rw [j0]; rfl)
  · rw [World.frozen?_setCell, World.frozen?_setCell]; exact f0
  · rw [World.frozen?_setCell, World.frozen?_setCell]; exact f1
  · have := own_takej h9 (i := hist.length) (by omega)
    rw [Nat.mul_one] at this
    exact own_heap this fun k hk => hset k (fun e => by subst e; rw [hob] at hk; exact h7 hk)
  · have hlt : i < hist.length := (List.getElem?_eq_some_iff.1 hi).1
    obtain ⟨f, hf, hb⟩ := h10 i L (by rw [List.getElem?_append_left hlt]; exact hi)
    exact ⟨f, by rw [List.getElem?_take_of_lt hlt]; exact hf, hb.keep hkeep⟩
  · have hku := hk.2.2 _ j1
    refine ⟨hset k hk.2.1, by rw [hsize]; exact hk.1, hk.2.1, fun u hu => ?_⟩
    rw [hc1] at hu
    injection hu with hu
    rw [← hu, hob]
    exact hku
theorem take_next {hist : List PL} {j : Nat} (h : j < hist.length) : hist.take (j + 1) = hist.take j ++ [hist[j]] := by
  rw [List.take_add_one, List.getElem?_eq_getElem h]; rfl
set_option maxRecDepth 100000 in
set_option maxHeartbeats 1600000 in
theorem jundo_k {w : World} {base jb : Nat} {hist : List PL} {cur : PL} (h : JnB Bk w base jb hist cur) (hn : hist.length ≤ 100000) (k : Nat) (hk : k ≤ hist.length) :
    Calls Try.prog 16 #[.pointer (some ⟨jb, 0, none⟩), .int .i64 k] w fun e w' => e = .returned (.int .i64 0) ∧ JnB Bk w' base jb (hist.take k) (hist.getD k cur) ∧ Below base w w' ∧ Keep w w' jb := by
  have hj := h
  obtain ⟨A, c, xs, uv, fs, ⟨h1, h2, h3, h4⟩, ⟨h5, h6, h7, hq⟩, h8, h9, h10⟩ := h
  obtain ⟨U, q, rfl, _⟩ := own_shape h9
  have i0 : ¬ (k : Int) < 0 := by omega
  have i1 : ¬ (hist.length : Int) < k := by omega
  go_enter Try.func16, Try.ntmps16
  go_wp2_with fail
  go_loopw [5] (fun n W => ∃ j : Nat, k ≤ j ∧ j ≤ hist.length ∧ n = .int .i64 j ∧ JnB Bk W base jb (hist.take j) (hist.getD j cur) ∧ Below base w W ∧ Keep w W jb) (fun n _ => (RowKit.intOf n).toNat)
  case atStart => exact ⟨hist.length, hk, Nat.le_refl _, rfl, by rw [List.take_length, List.getD_eq_getElem?_getD, List.getElem?_eq_none (Nat.le_refl _)]; exact hj, Below.refl _ _, Keep.refl _ _⟩
  case round =>
    obtain ⟨j, hkj, hjl, rfl, hJ, hb, hkp⟩ := hrel
    clear h1 h2 h3 h4 h8 h9 h10 hj
    by_cases hlt : k < j
    · obtain ⟨j', rfl⟩ : ∃ j', j = j' + 1 := ⟨j - 1, by omega⟩
      rw [take_next (by omega)] at hJ
      have hX : hist.getD j' cur = hist[j'] := by rw [List.getD_eq_getElem?_getD, List.getElem?_eq_getElem (by omega)]; rfl
      have HX := hid hX
      clear hX
      generalize hist[j'] = X at hJ HX
      obtain ⟨H, hH⟩ : ∃ H, hist.take j' = H := ⟨_, rfl⟩
      have hHl : H.length = j' := by rw [← hH, List.length_take]; omega
      rw [hH] at hJ
      have HH := hid hH
      clear hH
      subst hHl
      obtain ⟨A1, c1, xs1, uv1, fs1, ⟨h1, h2, h3, h4⟩, ⟨h5, h6, h7, hq⟩, h8, h9, h10⟩ := hJ
      rw [List.length_append, List.length_singleton] at h9
      obtain ⟨U1, q1, rfl, hq1, _⟩ := own_shape h9
      obtain ⟨f, hf, hgb⟩ := h10 H.length X (by rw [List.getElem?_append_right (Nat.le_refl _), Nat.sub_self]; rfl)
      obtain ⟨wb, pb, A2, c2, xs2, rfl, g1, g2, g3, g4, g5⟩ := hgb
      obtain ⟨ad, rfl, hcl⟩ := own_rd h9 H.length _ hf
      have i2 : (k : Int) < (H.length : Int) + 1 := by omega
      have i3 : (H.length : Int) < (H.length : Int) + 1 := by omega
      have e1 : IntKind.i64.wrap ((H.length : Int) + 1 - 1) = (H.length : Int) := (wrap_of _ (by omega) (by omega)).trans (by omega)
      have e2 : IntKind.i64.wrap (H.length : Int) = (H.length : Int) := wrap_of _ (by omega) (by omega)
      have sl1 := fun W => run_slice_to (P := Try.prog) Try.underlying51 infoF (some ad) (H.length + 1) q1 H.length .i64 (H.length : Int) rfl (by omega) W
      have KS := hid (set1_any g3 g4 h1 h3 rfl)
      have hfin := hid (jn_undone ⟨h1, h2, h3, h4⟩ ⟨h5, h6, h7, hq⟩ h9 h10 g5)
      have hb2 := hid ((hb.setCell (p := ⟨jb, 0, none⟩) h5 (.slice A2 xs2.length c2)).setCell (p := ⟨jb, 1, none⟩) h5 (.slice (some ad) H.length q1))
      go_wp2_with fail
      refine KS.out.mono ?_
      rintro e w2 ⟨⟨v, rfl⟩, rfl⟩
      go_wp2_with fail
      go_roundw
      case rel => exact ⟨H.length, by omega, by omega, by go_num, by rw [HH.out, HX.out]; exact hfin.out.1, hb2.out, hkp.trans hfin.out.2⟩
      case measure => simp [RowKit.intOf]
    · obtain rfl : j = k := by omega
      have i2 : ¬ (j : Int) < j := by omega
      go_wp2_with fail
      go_ret
      exact ⟨rfl, hJ, hb, hkp⟩
theorem jundo_ok {w : World} {base jb : Nat} {hist : List PL} {cur : PL} (h : Jn w base jb hist cur) (hn : hist.length ≤ 100000) (k : Nat) (hk : k ≤ hist.length) :
    Calls Try.prog 16 #[.pointer (some ⟨jb, 0, none⟩), .int .i64 k] w fun e w' => e = .returned (.int .i64 0) ∧ Jn w' base jb (hist.take k) (hist.getD k cur) ∧ Below base w w' :=
  (jundo_k h hn k hk).mono fun _ _ h => ⟨h.1, h.2.1, h.2.2.1⟩
theorem jundo_no {w : World} {base jb : Nat} {hist : List PL} {cur : PL} (h : JnB Bk w base jb hist cur) (k : Int) (hk : k < 0 ∨ (hist.length : Int) < k) :
    Calls Try.prog 16 #[.pointer (some ⟨jb, 0, none⟩), .int .i64 k] w fun e w' => e = .returned (.int .i64 1) ∧ w' = w := by
  obtain ⟨A, c, xs, uv, fs, ⟨h1, h2, h3, h4⟩, ⟨h5, h6, h7, hq⟩, h8, h9, h10⟩ := h
  obtain ⟨U, q, rfl, _⟩ := own_shape h9
  have hk2 : k < 0 ∨ ¬ k < 0 ∧ (hist.length : Int) < k := by omega
  rcases hk2 with i0 | ⟨i0, i1⟩
  all_goals
    go_enter Try.func16, Try.ntmps16
    go_wp2_with fail
    go_ret
    exact ⟨rfl, rfl⟩
end Go.Proofs.Ytlekoeddcjjjdaa
