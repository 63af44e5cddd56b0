import Derived.Test.YtgkdnhbhmebmeaaDoorPostG
import Derived.Test.YtgkdnhbhmebmeaaDoorOpB
import Derived.Test.YtgkdnhbhmebmeaaDoorSeaD
/-! post: a message's bytes -/
namespace Go.Proofs.YtgkdnhbhmebmeaaDoor
open Go.RowKit Go.Cov
def bytesM (m : MD) : List UInt8 × Int := if rightM m = true then (sealed (putM m), 0) else ([], 151)
theorem nsB_ten (n : N10) : nsB [n.1, n.2.1, n.2.2.1, n.2.2.2.1, n.2.2.2.2.1, n.2.2.2.2.2.1, n.2.2.2.2.2.2.1, n.2.2.2.2.2.2.2.1, n.2.2.2.2.2.2.2.2.1, n.2.2.2.2.2.2.2.2.2] = put10 n := by
  simp [nsB, put10]
theorem entsB_le (xs : List VD) (h : ∀ x ∈ xs, x.2.2.length ≤ 8192) (k : Nat) : ((xs.take k).flatMap putV).length ≤ 8212 * k := by
  induction k generalizing xs with
  | zero => simp
  | succ k ih =>
    cases xs with
    | nil => simp
    | cons x xs =>
      rw [List.take_succ_cons, List.flatMap_cons, List.length_append, putV_len]
      have := h x (List.mem_cons_self ..)
      have := ih xs (fun y hy => h y (List.mem_cons_of_mem _ hy))
      omega
theorem entsB_step (xs : List VD) (k : Nat) (hk : k < xs.length) : (xs.take (k + 1)).flatMap putV = (xs.take k).flatMap putV ++ putV xs[k] := by
  rw [List.take_succ_eq_append_getElem hk, List.flatMap_append]; simp [List.flatMap_cons]
theorem ent_cap {w : World} {A : Option Addr} {xs : List En} (h : Els enEl w A xs) (i : Nat) (hi : i < xs.length) : xs[i].op.length ≤ xs[i].cap ∧ xs[i].cap ≤ maxLen := by
  obtain ⟨ad, hA, hc, hp⟩ := h.at' i hi
  obtain ⟨A', c, he, h1, h2, hr⟩ := hp (xs[i].val, xs[i].op) (by simp [enEl])
  unfold En.val at he
  injection he with e1 e2 e3
  rw [e3]; exact ⟨h1, h2⟩
theorem Tab.below {w w' : World} (h : Tab w) (hb : Below w.heap.size w w') : Tab w' := fun k hk => cell_on hb (h k hk)
theorem rdq2 {w : World} {b : Nat} {x y : Value} (h0 : w.cell? ⟨b, 0, none⟩ = some x) (h1 : w.cell? ⟨b, 1, none⟩ = some y) : Rd w (some ⟨b, 0, none⟩) [x, y] := by
  intro j u hj
  refine ⟨_, rfl, ?_⟩
  rw [add_none]
  rcases j with _ | _ | j
  · cases hj; exact h0
  · cases hj; exact h1
  · simp at hj
set_option maxRecDepth 100000 in
set_option maxHeartbeats 12800000 in
theorem putmsg_any (o : Ma) {w : World} (h : MaRd w o) (ht : Tab w) :
    Calls Tryd.prog 11 #[o.val] w fun e w' => ∃ v, e = .returned (.tuple #[v, .int .i64 (bytesM o.data).2]) ∧ w'.ownsRow w.heap.size 5 1 v (bytesM o.data).1.length ((bytesM o.data).1.map byt) ∧ Below w.heap.size w w' := by
  have b0 := below_alloc w (.cells o.cells.toArray 28)
  have R0 := Row.new w o.cells 28
  have h1 := h.below b0
  have t1 := ht.below b0
  have hrt := fun {W : World} (hW : MaRd W o) => pright_any hW
  cases hR : rightM o.data
  case false =>
    have e : bytesM o.data = ([], 151) := by unfold bytesM; rw [hR, if_neg (by decide)]
    rw [e]
    clear e
    rw [hR] at hrt
    replace hR := hid hR
    unfold Ma.val Ma.cells at *
    go_enter Tryd.func11, Tryd.ntmps11
    go_wp2_with fail
    refine (hrt h1).mono ?_
    rintro e w2 ⟨rfl, hb2⟩
    go_wp2_with fail
    go_ret2
    exact ⟨_, rfl, World.ownsRow_nil _ _ _ _, below_step b0 hb2⟩
  have e : bytesM o.data = (sealed (putM o.data), 0) := by unfold bytesM; rw [hR, if_pos rfl]
  rw [e]
  clear e
  rw [hR] at hrt
  obtain ⟨hR1, hR2, hR3, hR4⟩ : o.b.length ≤ 8192 ∧ o.chk.length ≤ 65536 ∧ o.es.length ≤ 64 ∧ ∀ x ∈ o.es.map En.data, x.2.2.length ≤ 8192 := by
    unfold rightM rightLog at hR
    simp only [Bool.and_eq_true, decide_eq_true_eq, List.all_eq_true] at hR
    obtain ⟨⟨⟨_, h8, h9⟩, h10⟩, h11⟩ := hR
    have := h8.2.1
    unfold Ma.data at h10 h11 this h9
    simp only [List.length_map] at this
    exact ⟨h10, h11, this, h9⟩
  replace hR := hid hR
  unfold Ma.val Ma.cells at *
  go_enter Tryd.func11, Tryd.ntmps11
  go_upto_region 1 with fail
  generalize hw1 : w.alloc _ = w1 at b0 R0 h1 t1 ⊢
  have n1 : w1.heap.size = w.heap.size + 1 := by rw [← hw1]; simp
  clear hw1
  have C0 := (R0.2 0 _ rfl).1
  have C1 := (R0.2 1 _ rfl).1
  have C2 := (R0.2 2 _ rfl).1
  have C3 := (R0.2 3 _ rfl).1
  have C4 := (R0.2 4 _ rfl).1
  have C5 := (R0.2 5 _ rfl).1
  have C6 := (R0.2 6 _ rfl).1
  have C7 := (R0.2 7 _ rfl).1
  have C8 := (R0.2 8 _ rfl).1
  have C9 := (R0.2 9 _ rfl).1
  have C10 := (R0.2 10 _ rfl).1
  have C11 := (R0.2 11 _ rfl).1
  have C12 := (R0.2 12 _ rfl).1
  have C13 := (R0.2 13 _ rfl).1
  have C14 := (R0.2 14 _ rfl).1
  replace n1 := hid n1
  go_wp2_with fail
  refine (hrt h1).mono ?_
  rintro e w2 ⟨rfl, hb2⟩
  replace b0 := below_step b0 hb2
  have h2 := h1.below hb2
  have t2 := t1.below hb2
  have R2 := R0.below hb2
  clear hrt h1 t1 C0 C1 C2 C3 C4 C5 C6 C7 C8 C9 C10 C11 C12 C13 C14 R0
  have hz2 := R2.1
  have D : ∀ {W}, Below w2.heap.size w2 W → Row W w.heap.size [.int .i64 o.n.1, .int .i64 o.n.2.1, .int .i64 o.n.2.2.1, .int .i64 o.n.2.2.2.1, .int .i64 o.n.2.2.2.2.1, .int .i64 o.n.2.2.2.2.2.1, .int .i64 o.n.2.2.2.2.2.2.1, .int .i64 o.n.2.2.2.2.2.2.2.1, .int .i64 o.n.2.2.2.2.2.2.2.2.1, .int .i64 o.n.2.2.2.2.2.2.2.2.2, .slice o.bA o.b.length o.bc, .bool o.has, .int .i64 o.st, .slice o.eA o.es.length o.ec, .slice o.kA o.chk.length o.kc] := fun hb => R2.below hb
  have C0 := (R2.2 0 _ rfl).1
  have C1 := (R2.2 1 _ rfl).1
  have C2 := (R2.2 2 _ rfl).1
  have C3 := (R2.2 3 _ rfl).1
  have C4 := (R2.2 4 _ rfl).1
  have C5 := (R2.2 5 _ rfl).1
  have C6 := (R2.2 6 _ rfl).1
  have C7 := (R2.2 7 _ rfl).1
  have C8 := (R2.2 8 _ rfl).1
  have C9 := (R2.2 9 _ rfl).1
  have NT := hid (nsB_ten o.n)
  have b3 := below_alloc w2 (.cells #[.int .i64 o.n.1, .int .i64 o.n.2.1, .int .i64 o.n.2.2.1, .int .i64 o.n.2.2.2.1, .int .i64 o.n.2.2.2.2.1, .int .i64 o.n.2.2.2.2.2.1, .int .i64 o.n.2.2.2.2.2.2.1, .int .i64 o.n.2.2.2.2.2.2.2.1, .int .i64 o.n.2.2.2.2.2.2.2.2.1, .int .i64 o.n.2.2.2.2.2.2.2.2.2] 2)
  have r3 := rd_box w2 #[.int .i64 o.n.1, .int .i64 o.n.2.1, .int .i64 o.n.2.2.1, .int .i64 o.n.2.2.2.1, .int .i64 o.n.2.2.2.2.1, .int .i64 o.n.2.2.2.2.2.1, .int .i64 o.n.2.2.2.2.2.2.1, .int .i64 o.n.2.2.2.2.2.2.2.1, .int .i64 o.n.2.2.2.2.2.2.2.2.1, .int .i64 o.n.2.2.2.2.2.2.2.2.2] 2
  have K3 := pnums_any (base := w2.heap.size) (v := .slice none 0 0) (l := []) (c := 10) (World.ownsRow_nil _ _ _ _) b3.size (ns := [o.n.1, o.n.2.1, o.n.2.2.1, o.n.2.2.2.1, o.n.2.2.2.2.1, o.n.2.2.2.2.2.1, o.n.2.2.2.2.2.2.1, o.n.2.2.2.2.2.2.2.1, o.n.2.2.2.2.2.2.2.2.1, o.n.2.2.2.2.2.2.2.2.2]) 10 rfl r3 (fun ad _ => by simp [Value.ownBlock]) (fun ad ha => by cases ha; simp) (by simp)
  rw [NT.out, List.nil_append] at K3
  replace K3 := hid K3
  replace b3 := hid b3
  clear r3
  go_wp2_with fail
  refine K3.out.mono ?_
  rintro e w4 ⟨v4, rfl, own4, T4⟩
  replace b3 := b3.out
  have b4 := b3.trans (T4.below (e := 5) (size := 1) (World.ownsRow_nil _ _ _ _) b3.size)
  clear K3 T4 b3 C0 C1 C2 C3 C4 C5 C6 C7 C8 C9
  obtain ⟨l4, e4, z4⟩ : ∃ l4, l4 = put10 o.n ∧ l4.length ≤ 80 := ⟨_, rfl, by rw [put10_len]; omega⟩
  rw [← e4] at own4
  replace e4 := hid e4
  go_upto_region 4 with fail
  have bcur := (Below.refl w4.heap.size w4).drew
  have C10 := ((D b4).2 10 _ rfl).1
  have C11 := ((D b4).2 11 _ rfl).1
  have b4d := below_step b4 bcur
  have own4d := own_below own4 bcur
  have hB := h2.b.below b4d
  have hz4 := b4d.size
  refine wp_region_noPanic ?_
  refine wp_region_held_drew (S := (fun W => W.cell? ⟨w.heap.size, 10, none⟩ = some (.slice o.bA o.b.length o.bc) ∧ W.cell? ⟨w.heap.size, 11, none⟩ = some (.bool o.has))) (by kernel_rfl) ?_ (fun hHeld => ?_)
  · exact ⟨C10, C11⟩
  refine wpAnyH_take (i := 0) (oi := ?oi1) (v := ?v1) ?hi1 (by kernel_rfl) (by kernel_rfl) (by kernel_rfl) ?hQ1 ?hy1 (by assumption) ?hrest1
  case hi1 => (simp only [List.getElem?_toArray, List.getElem?_cons_zero]; try rfl)
  case hQ1 => exact fun _ _ _ h => h
  case hy1 =>
    refine Or.inl ⟨by rfl, ?_⟩
    (intro wq hSw; (try dsimp only at hSw); go_simp; try with_reducible rfl)
  (try simp only [Act.put, List.setIfInBounds_toArray, List.set_cons_zero, List.set_cons_succ])
  refine wpAnyH_take (i := 1) (oi := ?oi2) (v := ?v2) ?hi2 (by kernel_rfl) (by kernel_rfl) (by kernel_rfl) ?hQ2 ?hy2 (by assumption) ?hrest2
  case hi2 => (simp only [List.getElem?_toArray, List.getElem?_cons_succ, List.getElem?_cons_zero]; try rfl)
  case hQ2 => exact fun _ _ _ h => h
  case hy2 =>
    refine Or.inl ⟨by rfl, ?_⟩
    (intro wq hSw; (try dsimp only at hSw); go_simp; try with_reducible rfl)
  (try simp only [Act.put, List.setIfInBounds_toArray, List.set_cons_zero, List.set_cons_succ])
  refine wpAnyH_take (i := 2) (oi := ?oi3) (v := ?v3) ?hi3 (by kernel_rfl) (by kernel_rfl) (by kernel_rfl) ?hQ3 ?hy3 (by assumption) ?hrest3
  case hi3 => (simp only [List.getElem?_toArray, List.getElem?_cons_succ, List.getElem?_cons_zero]; try rfl)
  case hQ3 => exact fun _ _ _ h => h
  case hy3 =>
    refine Or.inl ⟨by rfl, ?_⟩
    (intro wq hSw; (try dsimp only at hSw); go_simp; try with_reducible rfl)
  (try simp only [Act.put, List.setIfInBounds_toArray, List.set_cons_zero, List.set_cons_succ])
  refine wpAnyH_take (i := 4) (oi := ?oi4) (v := ?v4) ?hi4 (by kernel_rfl) (by kernel_rfl) (by kernel_rfl) ?hQ4 ?hy4 (by assumption) ?hrest4
  case hi4 => (simp only [List.getElem?_toArray, List.getElem?_cons_succ, List.getElem?_cons_zero]; try rfl)
  case hQ4 => exact fun _ _ _ h => h
  case hy4 =>
    refine Or.inl ⟨by rfl, ?_⟩
    (intro wq hSw; (try dsimp only at hSw); go_simp; try with_reducible rfl)
  (try simp only [Act.put, List.setIfInBounds_toArray, List.set_cons_zero, List.set_cons_succ])
  refine wpAnyH_take (i := 5) (oi := ?oi5) (v := ?v5) ?hi5 (by kernel_rfl) (by kernel_rfl) (by kernel_rfl) ?hQ5 ?hy5 (by assumption) ?hrest5
  case hi5 => (simp only [List.getElem?_toArray, List.getElem?_cons_succ, List.getElem?_cons_zero]; try rfl)
  case hQ5 => exact fun _ _ _ h => h
  case hy5 =>
    refine Or.inl ⟨by rfl, ?_⟩
    (intro wq hSw; (try dsimp only at hSw); go_simp; try with_reducible rfl)
  (try simp only [Act.put, List.setIfInBounds_toArray, List.set_cons_zero, List.set_cons_succ])
  refine wpAnyH_ready (rs := [3]) (by kernel_rfl) (by simp) ?_
  refine AllReadyH.cons (o := ?oi6) ?hi6 (fun K hK => ?hstep6) AllReadyH.nil
  case hi6 => (simp only [List.getElem?_toArray, List.getElem?_cons_succ, List.getElem?_cons_zero]; try rfl)
  go_simp
  (refine (ptext_any own4d hz4 o.b.length rfl hB (by omega) (by omega)).mono ?_; rintro e w5 ⟨v5, rfl, own5, T5⟩; have b5 := b4d.trans (T5.below own4d hz4))
  refine hK.out _ _ ?_ (fun hHeld => ?_)
  · exact ⟨((D b5).2 10 _ rfl).1, ((D b5).2 11 _ rfl).1⟩
  clear hK K
  (try simp only [Act.put, List.setIfInBounds_toArray, List.set_cons_zero, List.set_cons_succ])
  refine wpAnyH_ready (rs := [6]) (by kernel_rfl) (by simp) ?_
  refine AllReadyH.cons (o := ?oi7) ?hi7 (fun K hK => ?hstep7) AllReadyH.nil
  case hi7 => (simp only [List.getElem?_toArray, List.getElem?_cons_succ, List.getElem?_cons_zero]; try rfl)
  go_simp
  (refine (putbool_any o.has _).mono ?_; rintro e w6 ⟨v6, rfl, own6, hb6⟩; have b6 := below_step b5 hb6; have own5 := own_below own5 hb6; obtain ⟨l5, e5, z5⟩ : ∃ l5, l5 = l4 ++ tx o.b ∧ l5.length ≤ 10000 := ⟨_, rfl, by rw [List.length_append, tx_length]; omega⟩; rw [← e5] at own5; replace e5 := hid e5)
  refine hK.out _ _ ?_ (fun hHeld => ?_)
  · exact ⟨((D b6).2 10 _ rfl).1, ((D b6).2 11 _ rfl).1⟩
  clear hK K
  (try simp only [Act.put, List.setIfInBounds_toArray, List.set_cons_zero, List.set_cons_succ])
  refine wpAnyH_ready (rs := [7]) (by kernel_rfl) (by simp) ?_
  refine AllReadyH.cons (o := ?oi8) ?hi8 (fun K hK => ?hstep8) AllReadyH.nil
  case hi8 => (simp only [List.getElem?_toArray, List.getElem?_cons_succ, List.getElem?_cons_zero]; try rfl)
  (obtain ⟨A6, c6, rfl, _, _, _⟩ := own_shape own6; refine oper_app2 rfl (.tmp 35) (.tmp 38) 23 rfl w2.heap.size 5 Tryd.underlying23 infoB rfl (by decide) v5 l5.length _ rfl own5 A6 1 c6 ([tb o.has].map byt) rfl (by simp) (own_rd own6) (byt_one _) (by omega) (by omega) b6.size ?_; intro v7 w7 own7 hg7 hat7; have b7 := b6.grown hg7 b6.size (fun k hk => (own_lt own5 hk).1))
  refine hK.out _ _ ?_ (fun hHeld => ?_)
  · exact ⟨((D b7).2 10 _ rfl).1, ((D b7).2 11 _ rfl).1⟩
  clear hK K
  (try simp only [Act.put, List.setIfInBounds_toArray, List.set_cons_zero, List.set_cons_succ])
  refine wpAnyH_take (i := 8) (oi := ?oi9) (v := ?v9) ?hi9 (by kernel_rfl) (by kernel_rfl) (by kernel_rfl) ?hQ9 ?hy9 (by assumption) ?hrest9
  case hi9 => (simp only [List.getElem?_toArray, List.getElem?_cons_succ, List.getElem?_cons_zero]; try rfl)
  case hQ9 => exact fun _ _ _ h => h
  case hy9 =>
    refine Or.inl ⟨by rfl, ?_⟩
    (intro wq hSw; (try dsimp only at hSw); go_simp; try with_reducible rfl)
  (try simp only [Act.put, List.setIfInBounds_toArray, List.set_cons_zero, List.set_cons_succ])
  refine wpAnyH_done (by kernel_rfl) ?_ _
  refine NoPanic.normal ?_
  (skip)
  obtain ⟨l7, e7, z7⟩ : ∃ l7, l7 = l5 ++ [tb o.has] ∧ l7.length ≤ 10001 := ⟨_, rfl, by rw [List.length_append]; simp; omega⟩
  rw [← List.map_append, ← e7, show l5.length + 1 = l7.length by rw [e7]; simp] at own7
  replace e7 := hid e7
  clear hHeld T5 own4 own4d own5 own6 hB C10 C11 hb6 hg7 hat7 b5 b4d bcur b4 b6
  -- the log's start, and how many entries
  have C12 := ((D b7).2 12 _ rfl).1
  have C13 := ((D b7).2 13 _ rfl).1
  have b8 := below_alloc w7 (.cells #[.int .i64 o.st, .int .i64 o.es.length] 2)
  have r8 := rd_box w7 #[.int .i64 o.st, .int .i64 o.es.length] 2
  have own8 := own_below own7 b8
  have b78 := below_step b7 b8
  have K8 := pnums_any (c := 2) own8 b78.size (ns := [o.st, (o.es.length : Int)]) 2 rfl r8 (apart_new own7 (fun ad ha => by cases ha; exact Nat.le_refl _)) (fun ad ha => by cases ha; simp) (by omega)
  replace K8 := hid K8
  clear r8 b8
  go_wp2_with fail
  refine K8.out.mono ?_
  rintro e w9 ⟨v9, rfl, own9, T9⟩
  have b9 := b78.trans (T9.below own8 b78.size)
  clear K8 T9 own7 own8 b78 b7 C12 C13
  obtain ⟨l9, e9, z9⟩ : ∃ l9, l9 = l7 ++ nsB [o.st, (o.es.length : Int)] ∧ l9.length ≤ 10100 := ⟨_, rfl, by rw [List.length_append, nsB_len]; simp; omega⟩
  rw [← e9] at own9
  replace e9 := hid e9
  have C13 := ((D b9).2 13 _ rfl).1
  go_wp2_with fail
  go_loopw [4, 54] (fun b i W => ∃ (k : Nat) (vk : Value), k ≤ o.es.length ∧ i = .int .i64 k ∧ b = vk ∧ W.ownsRow w2.heap.size 5 1 vk (l9 ++ ((o.es.map En.data).take k).flatMap putV).length ((l9 ++ ((o.es.map En.data).take k).flatMap putV).map byt) ∧ Below w2.heap.size w2 W) (fun _ i _ => o.es.length - (RowKit.intOf i).toNat)
  case atStart => exact ⟨0, v9, by omega, rfl, rfl, by simpa using own9, b9⟩
  case round =>
    obtain ⟨k, vk, hk, rfl, hs0, ownk, bk⟩ := hrel
    replace hs0 := hs0.symm
    subst hs0
    by_cases hlt : k < o.es.length
    · have i1 : (k : Int) < o.es.length := by omega
      have hE := h2.e.below bk
      obtain ⟨ad, hAd, x0, x1, x2, rx⟩ := en_at hE k hlt
      have hcp := ent_cap hE k hlt
      have rxx := fun {W : World} (hb : Below w2.heap.size w2 W) => (en_at (h2.e.below hb) k hlt)
      replace hAd := hid hAd
      have h8k : o.es[k].op.length ≤ 8192 := hR4 o.es[k].data (List.mem_map_of_mem (List.getElem_mem hlt))
      have HST : Hid ((l9 ++ ((o.es.map En.data).take k).flatMap putV) ++ putV o.es[k].data = l9 ++ ((o.es.map En.data).take (k + 1)).flatMap putV) := by
        rw [entsB_step (o.es.map En.data) k (by simpa using hlt), List.append_assoc, List.getElem_map]; exact hid rfl
      have hlk : (l9 ++ ((o.es.map En.data).take k).flatMap putV).length ≤ 1000000 := by
        have := entsB_le (o.es.map En.data) hR4 k
        rw [List.length_append]; omega
      generalize l9 ++ ((o.es.map En.data).take k).flatMap putV = lk at ownk HST hlk
      obtain ⟨x, hx⟩ : ∃ x, x = o.es[k] := ⟨_, rfl⟩
      rw [← hx] at x0 x1 x2 rx hcp h8k HST
      replace hx := hid hx
      have hrx : ∀ {W : World}, Below w2.heap.size w2 W → Rd W x.A (x.op.map byt) := fun hb => by
        obtain ⟨_, _, _, _, _, r⟩ := rxx hb
        rw [hx.out]; exact r
      clear rxx rx hE
      rw [hAd.out] at *
      have bA := below_alloc wr (.cells #[.int .i64 x.c, .int .i64 x.r, .slice x.A x.op.length x.cap] 43)
      have V := Var3.new wr (.int .i64 x.c) (.int .i64 x.r) (.slice x.A x.op.length x.cap) 43
      have ownA := own_below ownk bA
      have hne : vk.ownBlock ≠ some wr.heap.size := fun he => by have := (own_lt ownk he).2; omega
      go_upto_region 9 with fail
      generalize wr.alloc _ = wA at bA V ownA ⊢
      obtain ⟨X0, X1, X2, _, _, _, _⟩ := V
      replace bk := below_step bk bA
      clear ownk x0 x1 x2
      have bcur := (Below.refl wA.heap.size wA).drew
      have bkd := below_step bk bcur
      have ownd := own_below ownA bcur
      have hzA := bkd.size
      refine wp_region_noPanic ?_
      refine wp_region_held_drew (S := (fun W => W.cell? ⟨wr.heap.size, 0, none⟩ = some (.int .i64 x.c) ∧ W.cell? ⟨wr.heap.size, 1, none⟩ = some (.int .i64 x.r) ∧ W.cell? ⟨wr.heap.size, 2, none⟩ = some (.slice x.A x.op.length x.cap))) (by kernel_rfl) ?_ (fun hHeld => ?_)
      · exact ⟨X0, X1, X2⟩
      refine wpAnyH_take (i := 0) (oi := ?oi10) (v := ?v10) ?hi10 (by kernel_rfl) (by kernel_rfl) (by kernel_rfl) ?hQ10 ?hy10 (by assumption) ?hrest10
      case hi10 => (simp only [List.getElem?_toArray, List.getElem?_cons_zero]; try rfl)
      case hQ10 => exact fun _ _ _ h => h
      case hy10 =>
        refine Or.inl ⟨by rfl, ?_⟩
        (intro wq hSw; (try dsimp only at hSw); go_simp; try with_reducible rfl)
      (try simp only [Act.put, List.setIfInBounds_toArray, List.set_cons_zero, List.set_cons_succ])
      refine wpAnyH_take (i := 1) (oi := ?oi11) (v := ?v11) ?hi11 (by kernel_rfl) (by kernel_rfl) (by kernel_rfl) ?hQ11 ?hy11 (by assumption) ?hrest11
      case hi11 => (simp only [List.getElem?_toArray, List.getElem?_cons_succ, List.getElem?_cons_zero]; try rfl)
      case hQ11 => exact fun _ _ _ h => h
      case hy11 =>
        refine Or.inl ⟨by rfl, ?_⟩
        (intro wq hSw; (try dsimp only at hSw); go_simp; try with_reducible rfl)
      (try simp only [Act.put, List.setIfInBounds_toArray, List.set_cons_zero, List.set_cons_succ])
      refine wpAnyH_take (i := 2) (oi := ?oi12) (v := ?v12) ?hi12 (by kernel_rfl) (by kernel_rfl) (by kernel_rfl) ?hQ12 ?hy12 (by assumption) ?hrest12
      case hi12 => (simp only [List.getElem?_toArray, List.getElem?_cons_succ, List.getElem?_cons_zero]; try rfl)
      case hQ12 => exact fun _ _ _ h => h
      case hy12 =>
        refine Or.inl ⟨by rfl, ?_⟩
        (intro wq hSw; (try dsimp only at hSw); go_simp; try with_reducible rfl)
      (try simp only [Act.put, List.setIfInBounds_toArray, List.set_cons_zero, List.set_cons_succ])
      refine wpAnyH_take (i := 3) (oi := ?oi13) (v := ?v13) ?hi13 (by kernel_rfl) (by kernel_rfl) (by kernel_rfl) ?hQ13 ?hy13 (by assumption) ?hrest13
      case hi13 => (simp only [List.getElem?_toArray, List.getElem?_cons_succ, List.getElem?_cons_zero]; try rfl)
      case hQ13 => exact fun _ _ _ h => h
      case hy13 =>
        refine Or.inl ⟨by rfl, ?_⟩
        (intro wq hSw; (try dsimp only at hSw); go_simp; try with_reducible rfl)
      (try simp only [Act.put, List.setIfInBounds_toArray, List.set_cons_zero, List.set_cons_succ])
      refine wpAnyH_take (i := 4) (oi := ?oi14) (v := ?v14) ?hi14 (by kernel_rfl) (by kernel_rfl) (by kernel_rfl) ?hQ14 ?hy14 (by assumption) ?hrest14
      case hi14 => (simp only [List.getElem?_toArray, List.getElem?_cons_succ, List.getElem?_cons_zero]; try rfl)
      case hQ14 => exact fun _ _ _ h => h
      case hy14 =>
        refine Or.inl ⟨by rfl, ?_⟩
        (intro wq hSw; (try dsimp only at hSw); go_simp; try with_reducible rfl)
      (try simp only [Act.put, List.setIfInBounds_toArray, List.set_cons_zero, List.set_cons_succ])
      refine wpAnyH_take (i := 7) (oi := ?oi15) (v := ?v15) ?hi15 (by kernel_rfl) (by kernel_rfl) (by kernel_rfl) ?hQ15 ?hy15 (by assumption) ?hrest15
      case hi15 => (simp only [List.getElem?_toArray, List.getElem?_cons_succ, List.getElem?_cons_zero]; try rfl)
      case hQ15 => exact fun _ _ _ h => h
      case hy15 =>
        refine Or.inl ⟨by rfl, ?_⟩
        (intro wq hSw; (try dsimp only at hSw); go_simp; try with_reducible rfl)
      (try simp only [Act.put, List.setIfInBounds_toArray, List.set_cons_zero, List.set_cons_succ])
      refine wpAnyH_take (i := 8) (oi := ?oi16) (v := ?v16) ?hi16 (by kernel_rfl) (by kernel_rfl) (by kernel_rfl) ?hQ16 ?hy16 (by assumption) ?hrest16
      case hi16 => (simp only [List.getElem?_toArray, List.getElem?_cons_succ, List.getElem?_cons_zero]; try rfl)
      case hQ16 => exact fun _ _ _ h => h
      case hy16 =>
        refine Or.inl ⟨by rfl, ?_⟩
        (intro wq hSw; (try dsimp only at hSw); go_simp; try with_reducible rfl)
      (try simp only [Act.put, List.setIfInBounds_toArray, List.set_cons_zero, List.set_cons_succ])
      refine wpAnyH_ready (rs := [5]) (by kernel_rfl) (by simp) ?_
      refine AllReadyH.cons (o := ?oi17) ?hi17 (fun K hK => ?hstep17) AllReadyH.nil
      case hi17 => (simp only [List.getElem?_toArray, List.getElem?_cons_succ, List.getElem?_cons_zero]; try rfl)
      go_simp
      (refine newvar_Kd ?_; intro wx hbx nv nf nz; have r8 : Rd wx (some ⟨wA.heap.size, 0, none⟩) [.int .i64 x.c, .int .i64 x.r] := rdq2 (nv 0 _ rfl) (nv 1 _ rfl); have bkx := below_step bkd hbx; have ownx := own_below ownd hbx; have X0 := cell_on hbx X0; have X1 := cell_on hbx X1; have X2 := cell_on hbx X2; have X0x := X0; clear nv nf)
      refine hK.out _ _ ?_ (fun hHeld => ?_)
      · exact ⟨X0, X1, X2⟩
      clear hK K
      (try simp only [Act.put, List.setIfInBounds_toArray, List.set_cons_zero, List.set_cons_succ])
      refine wpAnyH_ready (rs := [6]) (by kernel_rfl) (by simp) ?_
      refine AllReadyH.cons (o := ?oi18) ?hi18 (fun K hK => ?hstep18) AllReadyH.nil
      case hi18 => (simp only [List.getElem?_toArray, List.getElem?_cons_succ, List.getElem?_cons_zero]; try rfl)
      go_simp
      (refine (pnums_any (c := 2) ownx bkx.size (ns := [x.c, x.r]) 2 rfl r8 (apart_new ownd (fun ad ha => by cases ha; exact Nat.le_refl _)) (fun ad ha => by cases ha; exact nz) (by omega)).mono ?_; rintro e w8 ⟨v8, rfl, own8, T8⟩; have b8 := bkx.trans (T8.below ownx bkx.size); have X2 := T8.cell X2 hne; have X1 := T8.cell X1 hne; have X0 := T8.cell X0 hne; obtain ⟨l8, e8, z8⟩ : ∃ l8, l8 = lk ++ nsB [x.c, x.r] ∧ l8.length ≤ 1000100 := ⟨_, rfl, by rw [List.length_append, nsB_len]; simp; omega⟩; rw [← e8] at own8; replace e8 := hid e8)
      refine hK.out _ _ ?_ (fun hHeld => ?_)
      · exact ⟨X0, X1, X2⟩
      clear hK K
      (try simp only [Act.put, List.setIfInBounds_toArray, List.set_cons_zero, List.set_cons_succ])
      refine wpAnyH_ready (rs := [9]) (by kernel_rfl) (by simp) ?_
      refine AllReadyH.cons (o := ?oi19) ?hi19 (fun K hK => ?hstep19) AllReadyH.nil
      case hi19 => (simp only [List.getElem?_toArray, List.getElem?_cons_succ, List.getElem?_cons_zero]; try rfl)
      go_simp
      (refine (ptext_any own8 b8.size x.op.length rfl (hrx b8) (by omega) (by omega)).mono ?_; rintro e w10 ⟨v10, rfl, own10, T10⟩; have b10 := b8.trans (T10.below own8 b8.size); have hne8 : v8.ownBlock ≠ some wr.heap.size := (by rcases T8.own with h | ⟨k, h, hk⟩; (rw [h]; exact hne); (rw [h]; intro e; injection e with e; have := cell_lt X0x; dsimp only at this; omega)))
      refine hK.out _ _ ?_ (fun hHeld => ?_)
      · exact ⟨T10.cell X0 hne8, T10.cell X1 hne8, T10.cell X2 hne8⟩
      clear hK K
      (try simp only [Act.put, List.setIfInBounds_toArray, List.set_cons_zero, List.set_cons_succ])
      refine wpAnyH_take (i := 10) (oi := ?oi20) (v := ?v20) ?hi20 (by kernel_rfl) (by kernel_rfl) (by kernel_rfl) ?hQ20 ?hy20 (by assumption) ?hrest20
      case hi20 => (simp only [List.getElem?_toArray, List.getElem?_cons_succ, List.getElem?_cons_zero]; try rfl)
      case hQ20 => exact fun _ _ _ h => h
      case hy20 =>
        refine Or.inl ⟨by rfl, ?_⟩
        (intro wq hSw; (try dsimp only at hSw); go_simp; try with_reducible rfl)
      (try simp only [Act.put, List.setIfInBounds_toArray, List.set_cons_zero, List.set_cons_succ])
      refine wpAnyH_done (by kernel_rfl) ?_ _
      refine NoPanic.normal ?_
      (skip)
      have e10 : l8 ++ tx x.op = l9 ++ ((o.es.map En.data).take (k + 1)).flatMap putV := by
        rw [← HST.out, e8.out, List.append_assoc]; simp [nsB, putV, En.data]
      rw [e10] at own10
      replace e10 := hid e10
      clear hHeld T10 T8 own8 ownx ownd ownA X0 X1 X2 X0x hbx r8 hrx
      go_wp2_with fail
      go_roundw
      case rel => exact ⟨k + 1, _, by omega, by go_num, rfl, own10, b10⟩
      case measure => simp [RowKit.intOf]; omega
    · obtain rfl : k = o.es.length := by omega
      have hlk : (l9 ++ ((o.es.map En.data).take o.es.length).flatMap putV).length ≤ 1000000 := by
        have := entsB_le (o.es.map En.data) hR4 o.es.length
        rw [List.length_append]; omega
      rw [List.take_of_length_le (by simp)] at ownk hlk
      obtain ⟨lk, ek⟩ : ∃ lk, lk = l9 ++ (o.es.map En.data).flatMap putV := ⟨_, rfl⟩
      rw [← ek] at ownk hlk
      replace ek := hid ek
      have C14 := ((D bk).2 14 _ rfl).1
      have K10 := hid (ptext_any (c := o.kc) ownk bk.size o.chk.length rfl (h2.k.below bk) (by omega) (by omega))
      clear own9 C13
      go_wp2_with fail
      refine K10.out.mono ?_
      rintro e w10 ⟨v10, rfl, own10, T10⟩
      have b10 := bk.trans (T10.below ownk bk.size)
      have e10 : lk ++ tx o.chk = putM o.data := by
        rw [ek.out, e9.out, e7.out, e5.out, e4.out]
        simp [putM, nsB, Ma.data]
      rw [e10] at own10
      have z10 : (putM o.data).length ≤ 140737488351232 := by rw [← e10, List.length_append, tx_length]; omega
      replace e10 := hid e10
      clear K10 T10 ownk C14
      obtain ⟨lm, elm⟩ : ∃ lm, putM o.data = lm := ⟨_, rfl⟩
      rw [elm] at own10 z10
      replace elm := hid elm
      obtain ⟨Am, cm, rfl, _, _, _⟩ := own_shape own10
      have K11 := hid (seal_any (c := cm) (own_rd own10) z10 (t2.below b10))
      go_wp2_with fail
      refine K11.out.mono ?_
      rintro e w11 ⟨v11, rfl, own11, hb11⟩
      have b11 := b0.trans (b10.trans (hb11.mono b10.size) |>.mono b0.size)
      clear K11
      go_wp2_with fail
      go_ret2
      refine ⟨_, rfl, ?_, b11⟩
      rw [elm.out, sealed_length]
      exact own_mono own11 (Nat.le_trans b0.size b10.size)
end Go.Proofs.YtgkdnhbhmebmeaaDoor
