import Derived.Test.YtgkdnhbhmebmeaaDoorLogB
import Derived.Test.YtgkdnhbhmebmeaaDoorPlain1
namespace Go.Proofs.YtgkdnhbhmebmeaaDoor
open Go.RowKit Go.Cov
theorem infoE : (Tryd.prog.info? 43).map (fun i => (i.zero, i.size, i.bytes)) = some (some (.agg #[.int .i64 0, .int .i64 0, .slice none 0 0]), 3, 40) := by kernel_rfl
theorem cloneE_any {A : Option Addr} {c : Nat} {xs : List En} {w : World} (h : Els enEl w A xs) (hl : xs.length ≤ 100000) :
    Calls Tryd.prog 61 #[.slice A xs.length c] w fun e w' => ∃ v, e = .returned v ∧ OwnEls enEl w' w.heap.size 43 v xs ∧ Below w.heap.size w w' := by
  have q22 : ∀ (w : World) (a : Option Addr) (n c n' c' : Nat), (binOp .eql 24 (.slice a n c) (.slice none n' c')).run Tryd.prog w = .ok (.bool a.isNone) w := fun w a n c n' c' => Lib.run_eql_slice_nil w _ _ a n c n' c' Tryd.underlying24
  cases A with
  | none =>
    have hl0 : xs = [] := by
      cases xs with
      | nil => rfl
      | cons x l => obtain ⟨ad, hA, _⟩ := h.at' 0 (by simp); cases hA
    subst hl0
    go_enter Tryd.func61, Tryd.ntmps61
    go_wp2_with fail
    go_ret
    exact ⟨_, rfl, OwnEls.nil _ _ _ _, Below.refl _ _⟩
  | some ad =>
    have hown : (w.alloc (.cells #[] 43)).ownsRow w.heap.size 43 3 (.slice (some ⟨w.heap.size, 0, none⟩) 0 0) 0 [] := World.ownsRow_made w #[] 0 (Nat.le_refl _) (by simp [maxLen]) rfl
    have h1 := h.below (below_alloc w (.cells #[] 43))
    have hoff := Off.old (T := enEl) (xs := xs) (v := .slice (some ⟨w.heap.size, 0, none⟩) 0 0) (fun a ha p hp => h.2 a ha p hp) (below_alloc w (.cells #[] 43)) (fun k hk => by simp [Value.ownBlock] at hk; omega)
    go_enter Tryd.func61, Tryd.ntmps61
    go_wp2_with (at_builtin; refine wpList_app rfl (.tmp 5) (.tmp 6) 24 rfl w.heap.size 43 Tryd.underlying24 infoE rfl (by decide) (.slice (some ⟨w.heap.size, 0, none⟩) 0 0) 0 _ rfl hown (some ad) xs.length c (xs.flatMap enEl.cells) rfl (enEl.flat_len _) h1.1 (enEl.flat_one _) (by omega) (by omega) (by simp) ?_; intro v2 w2 hin2 hg2 hat2; have hb2 : Below w.heap.size w w2 := ((below_alloc w _).grown hg2 (by simp) (by intro k hk; simp [Value.ownBlock] at hk; omega)))
    go_ret
    exact ⟨_, rfl, OwnEls.app (xs := []) (fun a ha => by simp at ha) hoff hin2 hg2 hat2, hb2⟩
theorem own_lg {w : World} {base : Nat} {t : TypeId} {v : Value} {ys : List En} (h : OwnEls enEl w base t v ys) : ∃ A c, v = .slice A ys.length c ∧ Lg w A c ys (ys.map En.data) := by
  obtain ⟨A, c, rfl, hc, _, he⟩ := h.rd
  exact ⟨A, c, rfl, he, hc, rfl⟩
theorem rd_set {w : World} {A : Option Addr} {xs : List Value} {b i : Nat} {v : Value} (h : Rd w A xs) (hne : ∀ ad, A = some ad → ad.block ≠ b) : Rd (w.setCell ⟨b, i, none⟩ v) A xs := fun j u hj => by
  obtain ⟨ad, rfl, hc⟩ := h j u hj
  refine ⟨ad, rfl, ?_⟩
  rw [World.cell?_setCell_other _ _ _ _ (fun e => hne ad rfl (by rw [← block_add ad j, ← e]))]
  exact hc
theorem lg_two {w w4 : World} {base b n q : Nat} {t : TypeId} {C : Option Addr} {us : List En} {y0 y1 : Value} (own : OwnEls enEl w4 base t (.slice C n q) us) (hold : ∀ a ∈ us, ∀ p ∈ enEl.cons a, Sl w p.1 p.2) (hb : b < base)
    (bf : Below w.heap.size w ((w4.setCell ⟨b, 0, none⟩ y0).setCell ⟨b, 1, none⟩ y1)) : Lg ((w4.setCell ⟨b, 0, none⟩ y0).setCell ⟨b, 1, none⟩ y1) C q us (us.map En.data) := by
  obtain ⟨A', c', he, hc, _⟩ := own_shape own.1
  injection he with e1 e2 e3
  subst e1 e2 e3
  have hne : ∀ ad, C = some ad → ad.block ≠ b := fun ad hA => by
    have := (own.lt (k := ad.block) (by rw [hA]; rfl)).1
    omega
  exact ⟨⟨rd_set (rd_set (own_rd own.1) hne) hne, fun a ha p hp => (hold a ha p hp).keep (fun _ _ hq => cell_on bf hq)⟩, hc, rfl⟩
def fromL (s : Int) (L : EL) (n : Int) : EL := ((atL s L n).map fun i => L.drop i).getD []
def cutR (s : Int) (L : EL) (n : Int) : Int × EL × Int := match atL s L n with
  | some i => (n, L.drop i, 0)
  | none => (0, [], 1)
def trimR (s : Int) (L : EL) (n : Int) : Int × EL × Int := match atL s L n with
  | some i => (s, L.take i, 0)
  | none => (0, [], 1)
def appR (s : Int) (L : EL) (e : ED) : Int × EL × Int :=
  if rightL s L = true then (if L.length = 64 ∨ s + L.length = 1099511627776 ∨ 8192 < e.2.2.length then (0, [], 2) else (s, L ++ [e], 0)) else (0, [], 1)
set_option maxRecDepth 100000 in
set_option maxHeartbeats 1000000 in
theorem from_any {s : Int} {A : Option Addr} {c : Nat} {xs : List En} {L : EL} {w : World} (h : Lg w A c xs L) (n : Int) :
    Calls Tryd.prog 39 #[.agg #[.int .i64 s, .slice A xs.length c], .int .i64 n] w fun e w' => ∃ C q ys, e = .returned (.tuple #[.slice C (ys : List En).length q, .bool (atL s L n).isSome]) ∧ Lg w' C q ys (fromL s L n) ∧ (∀ ad, C = some ad → w.heap.size ≤ ad.block) ∧ Below w.heap.size w w' := by
  have hb1 := below_alloc w (.cells #[.int .i64 s, .slice A xs.length c] 26)
  have K := hid (at_any (s := s) (h.below hb1) n)
  have U0 := box_cell w #[.int .i64 s, .slice A xs.length c] 26 1 _ rfl
  unfold fromL
  rcases atL_cases s L n with ha | ⟨i, ha, hn, hi, hr⟩
  · rw [ha] at K ⊢
    clear ha
    go_enter Tryd.func39, Tryd.ntmps39
    go_wp2_with fail
    refine K.out.mono ?_
    rintro e w2 ⟨rfl, hb3⟩
    go_wp2_with fail
    go_ret2
    exact ⟨none, 0, [], rfl, lg_nil _, (fun ad hA => by cases hA), below_step hb1 hb3⟩
  · rw [ha] at K ⊢
    rw [show ((((some i).getD 0 : Nat)) : Int) = (i : Int) from rfl] at K
    have hxl := h.len
    obtain ⟨_, r2, _⟩ := rightL_iff.1 hr
    have hix : i ≤ xs.length := by omega
    have hz : xs.length ≤ 64 := by omega
    have hcap := h.2.1
    have sl2 := fun W => run_slice_from (P := Tryd.prog) Tryd.underlying24 infoE A xs.length c i .i64 (i : Int) (by omega) (by omega) W
    have HD := hid (show (xs.drop i).length = xs.length - i by simp)
    have E2 := hid (fun W (hW : Below w.heap.size w W) => (h.below hW).1.cut i h.2.1)
    have HM := hid (show (xs.drop i).map En.data = L.drop i by rw [List.map_drop, h.2.2])
    generalize hA2 : cutA A c i 3 = A2 at sl2
    rw [show enEl.sz = 3 from rfl, hA2] at E2
    clear hA2
    have KC := hid (fun W (hW : Below w.heap.size w W) => cloneE_any (c := c - i) (E2.out W hW) (by simp; omega))
    rw [HD.out] at KC
    clear ha hr hn hxl hi r2 h
    go_enter Tryd.func39, Tryd.ntmps39
    go_wp2_with fail
    refine K.out.mono ?_
    rintro e w2 ⟨rfl, hb3⟩
    have U0 := cell_on hb3 U0
    have b3 := below_step hb1 hb3
    go_wp2_with fail
    refine (KC.out _ b3).mono ?_
    rintro e w4 ⟨v4, rfl, own4, hb4⟩
    obtain ⟨us, hus⟩ : ∃ us, us = xs.drop i := ⟨_, rfl⟩
    have HM := hid HM.out
    rw [← hus] at own4 HM
    obtain ⟨C, q, rfl, hl4⟩ := own_lg own4
    rw [HM.out] at hl4
    clear hus
    go_wp2_with fail
    go_ret2
    exact ⟨C, q, _, rfl, hl4, (fun ad hA => Nat.le_trans b3.size (own4.lt (k := ad.block) (by rw [hA]; rfl)).1), below_step b3 hb4⟩
end Go.Proofs.YtgkdnhbhmebmeaaDoor
