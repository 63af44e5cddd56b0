import Derived.Test.YtgkdnhbhmebmeaaDoorPostI
import Derived.Test.YtgkdnhbhmebmeaaDoorPostH
import Derived.Test.YtgkdnhbhmebmeaaDoorSeaC
/-! the ref's post: a message's bytes -/
namespace Go.Proofs.YtgkdnhbhmebmeaaDoor
open Go.RowKit Go.Cov
theorem rptext_n {A : Option Addr} {c : Nat} {l : List UInt8} {w : World} (n : Nat) (hn : l.length = n) (h : Rd w A (l.map byt)) (hl : n ≤ 65536) :
    Calls Tryd.prog 23 #[.slice A n c] w fun e w' => ∃ v, e = .returned v ∧ w'.ownsRow w.heap.size 5 1 v (4 + n) ((tx l).map byt) ∧ Below w.heap.size w w' := by
  subst hn
  have K := rputbytes_ok (c := c) h hl
  rw [tx_length] at K
  go_enter Tryd.func23, Tryd.ntmps23
  go_wp2_with fail
  refine K.mono ?_
  rintro e w2 ⟨v, rfl, own, hb⟩
  go_wp2_with fail
  go_ret
  exact ⟨_, rfl, own, hb⟩
set_option maxRecDepth 100000 in
set_option maxHeartbeats 12800000 in
theorem rputmsg_any (o : Ma) {w : World} (h : MaRd w o) :
    Calls Tryd.prog 12 #[o.val] w fun e w' => ∃ v, e = .returned (.tuple #[v, .int .i64 (bytesM o.data).2]) ∧ w'.ownsRow w.heap.size 5 1 v (bytesM o.data).1.length ((bytesM o.data).1.map byt) ∧ Below w.heap.size w w' := by
  have b0 := below_alloc w (.cells o.cells.toArray 28)
  have R0 := Row.new w o.cells 28
  have h1 := h.below b0
  have hrt := fun {W : World} (hW : MaRd W o) => rpright_any hW
  cases hR : rightM o.data
  case false =>
    have e : bytesM o.data = ([], 151) := by unfold bytesM; rw [hR, if_neg (by decide)]
    rw [e]
    clear e
    rw [hR] at hrt
    replace hR := hid hR
    unfold Ma.val Ma.cells at *
    go_enter Tryd.func12, Tryd.ntmps12
    go_wp2_with fail
    refine (hrt h1).mono ?_
    rintro e w2 ⟨rfl, hb2⟩
    go_wp2_with fail
    go_ret2
    exact ⟨_, rfl, World.ownsRow_nil _ _ _ _, below_step b0 hb2⟩
  have e : bytesM o.data = (sealed (putM o.data), 0) := by unfold bytesM; rw [hR, if_pos rfl]
  rw [e]
  clear e
  rw [hR] at hrt
  obtain ⟨hR1, hR2, hR3, hR4⟩ : o.b.length ≤ 8192 ∧ o.chk.length ≤ 65536 ∧ o.es.length ≤ 64 ∧ ∀ x ∈ o.es.map En.data, x.2.2.length ≤ 8192 := by
    unfold rightM rightLog at hR
    simp only [Bool.and_eq_true, decide_eq_true_eq, List.all_eq_true] at hR
    obtain ⟨⟨⟨_, h8, h9⟩, h10⟩, h11⟩ := hR
    have := h8.2.1
    unfold Ma.data at h10 h11 this h9
    simp only [List.length_map] at this
    exact ⟨h10, h11, this, h9⟩
  replace hR := hid hR
  unfold Ma.val Ma.cells at *
  go_enter Tryd.func12, Tryd.ntmps12
  go_upto_region 1 with fail
  generalize hw1 : w.alloc _ = w1 at b0 R0 h1 ⊢
  have n1 : w1.heap.size = w.heap.size + 1 := by rw [← hw1]; simp
  clear hw1
  have C0 := (R0.2 0 _ rfl).1
  have C1 := (R0.2 1 _ rfl).1
  have C2 := (R0.2 2 _ rfl).1
  have C3 := (R0.2 3 _ rfl).1
  have C4 := (R0.2 4 _ rfl).1
  have C5 := (R0.2 5 _ rfl).1
  have C6 := (R0.2 6 _ rfl).1
  have C7 := (R0.2 7 _ rfl).1
  have C8 := (R0.2 8 _ rfl).1
  have C9 := (R0.2 9 _ rfl).1
  have C10 := (R0.2 10 _ rfl).1
  have C11 := (R0.2 11 _ rfl).1
  have C12 := (R0.2 12 _ rfl).1
  have C13 := (R0.2 13 _ rfl).1
  have C14 := (R0.2 14 _ rfl).1
  replace n1 := hid n1
  go_wp2_with fail
  refine (hrt h1).mono ?_
  rintro e w2 ⟨rfl, hb2⟩
  replace b0 := below_step b0 hb2
  have h2 := h1.below hb2
  have R2 := R0.below hb2
  clear hrt h1 C0 C1 C2 C3 C4 C5 C6 C7 C8 C9 C10 C11 C12 C13 C14 R0
  have hz2 := R2.1
  have D : ∀ {W}, Below w2.heap.size w2 W → Row W w.heap.size [.int .i64 o.n.1, .int .i64 o.n.2.1, .int .i64 o.n.2.2.1, .int .i64 o.n.2.2.2.1, .int .i64 o.n.2.2.2.2.1, .int .i64 o.n.2.2.2.2.2.1, .int .i64 o.n.2.2.2.2.2.2.1, .int .i64 o.n.2.2.2.2.2.2.2.1, .int .i64 o.n.2.2.2.2.2.2.2.2.1, .int .i64 o.n.2.2.2.2.2.2.2.2.2, .slice o.bA o.b.length o.bc, .bool o.has, .int .i64 o.st, .slice o.eA o.es.length o.ec, .slice o.kA o.chk.length o.kc] := fun hb => R2.below hb
  have C0 := (R2.2 0 _ rfl).1
  have C1 := (R2.2 1 _ rfl).1
  have C2 := (R2.2 2 _ rfl).1
  have C3 := (R2.2 3 _ rfl).1
  have C4 := (R2.2 4 _ rfl).1
  have C5 := (R2.2 5 _ rfl).1
  have C6 := (R2.2 6 _ rfl).1
  have C7 := (R2.2 7 _ rfl).1
  have C8 := (R2.2 8 _ rfl).1
  have C9 := (R2.2 9 _ rfl).1
  have NT := hid (nsB_ten o.n)
  have b3 := below_alloc w2 (.cells #[.int .i64 o.n.1, .int .i64 o.n.2.1, .int .i64 o.n.2.2.1, .int .i64 o.n.2.2.2.1, .int .i64 o.n.2.2.2.2.1, .int .i64 o.n.2.2.2.2.2.1, .int .i64 o.n.2.2.2.2.2.2.1, .int .i64 o.n.2.2.2.2.2.2.2.1, .int .i64 o.n.2.2.2.2.2.2.2.2.1, .int .i64 o.n.2.2.2.2.2.2.2.2.2] 2)
  have r3 := rd_box w2 #[.int .i64 o.n.1, .int .i64 o.n.2.1, .int .i64 o.n.2.2.1, .int .i64 o.n.2.2.2.1, .int .i64 o.n.2.2.2.2.1, .int .i64 o.n.2.2.2.2.2.1, .int .i64 o.n.2.2.2.2.2.2.1, .int .i64 o.n.2.2.2.2.2.2.2.1, .int .i64 o.n.2.2.2.2.2.2.2.2.1, .int .i64 o.n.2.2.2.2.2.2.2.2.2] 2
  obtain ⟨ns, hns⟩ : ∃ ns : List Int, ns = [o.n.1, o.n.2.1, o.n.2.2.1, o.n.2.2.2.1, o.n.2.2.2.2.1, o.n.2.2.2.2.2.1, o.n.2.2.2.2.2.2.1, o.n.2.2.2.2.2.2.2.1, o.n.2.2.2.2.2.2.2.2.1, o.n.2.2.2.2.2.2.2.2.2] := ⟨_, rfl⟩
  have hnl : ns.length = 10 := by rw [hns]; rfl
  have r3 : Rd (w2.alloc (.cells #[.int .i64 o.n.1, .int .i64 o.n.2.1, .int .i64 o.n.2.2.1, .int .i64 o.n.2.2.2.1, .int .i64 o.n.2.2.2.2.1, .int .i64 o.n.2.2.2.2.2.1, .int .i64 o.n.2.2.2.2.2.2.1, .int .i64 o.n.2.2.2.2.2.2.2.1, .int .i64 o.n.2.2.2.2.2.2.2.2.1, .int .i64 o.n.2.2.2.2.2.2.2.2.2] 2)) (some ⟨w2.heap.size, 0, none⟩) (ns.map (.int .i64)) := by rw [hns]; exact r3
  rw [← hns] at NT
  replace hns := hid hns
  replace hnl := hid hnl
  replace r3 := hid r3
  replace b3 := hid b3
  go_upto_region 5 with fail
  replace r3 := r3.out
  replace b3 := b3.out
  generalize w2.alloc _ = w3 at r3 b3 ⊢
  clear C0 C1 C2 C3 C4 C5 C6 C7 C8 C9
  go_wp2_with fail
  go_loopw [6, 7] (fun s6 i W => ∃ (k : Nat) (vk : Value), k ≤ 10 ∧ i = .int .i64 k ∧ s6 = vk ∧ W.ownsRow w3.heap.size 5 1 vk (8 * k) ((nsB (ns.take k)).map byt) ∧ Below w3.heap.size w3 W) (fun _ i _ => 10 - (RowKit.intOf i).toNat)
  case atStart => exact ⟨0, .slice none 0 0, by omega, rfl, rfl, by simpa [nsB] using World.ownsRow_nil _ _ _ _, Below.refl _ _⟩
  case round =>
    obtain ⟨k, vk, hk, rfl, hs6, ownk, bk⟩ := hrel
    replace hs6 := hs6.symm
    subst hs6
    by_cases hlt : k < 10
    · have i1 : (k : Int) < 10 := by omega
      have hkl : k < ns.length := by have := hnl.out; omega
      obtain ⟨ad, had, x0⟩ := (r3.below bk) k (.int .i64 ns[k]) (by simp [hkl])
      cases had
      rw [add_none, Nat.zero_add] at x0
      have HST := hid (nsB_step ns k hkl)
      generalize ns[k] = x at x0 HST
      go_wp2_with fail
      refine (rputnum_any x _).mono ?_
      rintro e wx ⟨vx, rfl, ownx, hbx⟩
      have ownk2 := own_below ownk hbx
      have zx : w3.heap.size ≤ wx.heap.size := Nat.le_trans bk.size hbx.size
      obtain ⟨Ax, cx, rfl, _⟩ := own_shape ownx
      go_wp2_with (at_builtin; refine wpList_app rfl (.tmp 41) (.tmp 46) 23 rfl w3.heap.size 5 Tryd.underlying23 infoB rfl (by decide) vk (8 * k) _ rfl ownk2 Ax 8 cx ((be 8 x).map byt) rfl (by rw [List.length_map, be_length]) (own_rd ownx) (byt_one _) (by omega) (by omega) zx ?_; intro v9 w9 own9 hg9 hat9)
      have b9 := (below_step bk hbx).grown hg9 zx (fun j hj => (own_lt ownk2 hj).1)
      go_roundw
      case rel => exact ⟨k + 1, v9, by omega, by go_num, rfl, by rw [HST.out, List.map_append, show 8 * (k + 1) = 8 * k + 8 by omega]; exact own9, b9⟩
      case measure => simp [RowKit.intOf]; omega
    · obtain rfl : k = 10 := by omega
      have b4 := below_step b3 bk
      have own4 := own_mono ownk b3.size
      have NT2 := NT.out
      rw [List.take_of_length_le (by have := hnl.out; omega), NT2] at own4
      clear ownk bk r3 NT2
      obtain ⟨l4, e4, z4⟩ : ∃ l4, l4 = put10 o.n ∧ l4.length = 80 := ⟨_, rfl, put10_len _⟩
      rw [← e4] at own4
      replace e4 := hid e4
      replace z4 := hid z4
      replace own4 : wr.ownsRow w2.heap.size 5 1 vk 80 (l4.map byt) := own4
      go_upto_region 10 with fail
      generalize hwr : wr = w4 at own4 b4 ⊢
      clear hwr
      have bcur := (Below.refl w4.heap.size w4).drew
      have C10 := ((D b4).2 10 _ rfl).1
      have C11 := ((D b4).2 11 _ rfl).1
      have b4d := below_step b4 bcur
      have own4d := own_below own4 bcur
      have hB := h2.b.below b4d
      refine wp_region_noPanic ?_
      refine wp_region_held_drew (S := (fun W => W.cell? ⟨w.heap.size, 10, none⟩ = some (.slice o.bA o.b.length o.bc) ∧ W.cell? ⟨w.heap.size, 11, none⟩ = some (.bool o.has))) (by kernel_rfl) ?_ (fun hHeld => ?_)
      · exact ⟨C10, C11⟩
      refine wpAnyH_take (i := 0) (oi := ?oi1) (v := ?v1) ?hi1 (by kernel_rfl) (by kernel_rfl) (by kernel_rfl) ?hQ1 ?hy1 (by assumption) ?hrest1
      case hi1 => (simp only [List.getElem?_toArray, List.getElem?_cons_zero]; try rfl)
      case hQ1 => exact fun _ _ _ h => h
      case hy1 =>
        refine Or.inl ⟨by rfl, ?_⟩
        (intro wq hSw; (try dsimp only at hSw); go_simp; try with_reducible rfl)
      (try simp only [Act.put, List.setIfInBounds_toArray, List.set_cons_zero, List.set_cons_succ])
      refine wpAnyH_take (i := 1) (oi := ?oi2) (v := ?v2) ?hi2 (by kernel_rfl) (by kernel_rfl) (by kernel_rfl) ?hQ2 ?hy2 (by assumption) ?hrest2
      case hi2 => (simp only [List.getElem?_toArray, List.getElem?_cons_succ, List.getElem?_cons_zero]; try rfl)
      case hQ2 => exact fun _ _ _ h => h
      case hy2 =>
        refine Or.inl ⟨by rfl, ?_⟩
        (intro wq hSw; (try dsimp only at hSw); go_simp; try with_reducible rfl)
      (try simp only [Act.put, List.setIfInBounds_toArray, List.set_cons_zero, List.set_cons_succ])
      refine wpAnyH_take (i := 2) (oi := ?oi3) (v := ?v3) ?hi3 (by kernel_rfl) (by kernel_rfl) (by kernel_rfl) ?hQ3 ?hy3 (by assumption) ?hrest3
      case hi3 => (simp only [List.getElem?_toArray, List.getElem?_cons_succ, List.getElem?_cons_zero]; try rfl)
      case hQ3 => exact fun _ _ _ h => h
      case hy3 =>
        refine Or.inl ⟨by rfl, ?_⟩
        (intro wq hSw; (try dsimp only at hSw); go_simp; try with_reducible rfl)
      (try simp only [Act.put, List.setIfInBounds_toArray, List.set_cons_zero, List.set_cons_succ])
      refine wpAnyH_take (i := 5) (oi := ?oi4) (v := ?v4) ?hi4 (by kernel_rfl) (by kernel_rfl) (by kernel_rfl) ?hQ4 ?hy4 (by assumption) ?hrest4
      case hi4 => (simp only [List.getElem?_toArray, List.getElem?_cons_succ, List.getElem?_cons_zero]; try rfl)
      case hQ4 => exact fun _ _ _ h => h
      case hy4 =>
        refine Or.inl ⟨by rfl, ?_⟩
        (intro wq hSw; (try dsimp only at hSw); go_simp; try with_reducible rfl)
      (try simp only [Act.put, List.setIfInBounds_toArray, List.set_cons_zero, List.set_cons_succ])
      refine wpAnyH_take (i := 6) (oi := ?oi5) (v := ?v5) ?hi5 (by kernel_rfl) (by kernel_rfl) (by kernel_rfl) ?hQ5 ?hy5 (by assumption) ?hrest5
      case hi5 => (simp only [List.getElem?_toArray, List.getElem?_cons_succ, List.getElem?_cons_zero]; try rfl)
      case hQ5 => exact fun _ _ _ h => h
      case hy5 =>
        refine Or.inl ⟨by rfl, ?_⟩
        (intro wq hSw; (try dsimp only at hSw); go_simp; try with_reducible rfl)
      (try simp only [Act.put, List.setIfInBounds_toArray, List.set_cons_zero, List.set_cons_succ])
      refine wpAnyH_ready (rs := [3]) (by kernel_rfl) (by simp) ?_
      refine AllReadyH.cons (o := ?oi6) ?hi6 (fun K hK => ?hstep6) AllReadyH.nil
      case hi6 => (simp only [List.getElem?_toArray, List.getElem?_cons_succ, List.getElem?_cons_zero]; try rfl)
      go_simp
      (refine (rptext_n o.b.length rfl hB (by omega)).mono ?_; rintro e w5 ⟨v5, rfl, own5, hb5⟩; have b5 := below_step b4d hb5; have own4 := own_below own4d hb5; obtain ⟨A5, c5, rfl, _⟩ := own_shape own5)
      refine hK.out _ _ ?_ (fun hHeld => ?_)
      · exact ⟨((D b5).2 10 _ rfl).1, ((D b5).2 11 _ rfl).1⟩
      clear hK K
      (try simp only [Act.put, List.setIfInBounds_toArray, List.set_cons_zero, List.set_cons_succ])
      refine wpAnyH_ready (rs := [4]) (by kernel_rfl) (by simp) ?_
      refine AllReadyH.cons (o := ?oi7) ?hi7 (fun K hK => ?hstep7) AllReadyH.nil
      case hi7 => (simp only [List.getElem?_toArray, List.getElem?_cons_succ, List.getElem?_cons_zero]; try rfl)
      (refine oper_app2 rfl (.tmp 48) (.tmp 51) 23 rfl w2.heap.size 5 Tryd.underlying23 infoB rfl (by decide) vk 80 _ rfl own4 A5 (4 + o.b.length) c5 ((tx o.b).map byt) rfl (by rw [List.length_map, tx_length]; omega) (own_rd own5) (byt_one _) (by omega) (by omega) b5.size ?_; intro v6 w6 own6 hg6 hat6; have b6 := b5.grown hg6 b5.size (fun k hk => (own_lt own4 hk).1))
      refine hK.out _ _ ?_ (fun hHeld => ?_)
      · exact ⟨((D b6).2 10 _ rfl).1, ((D b6).2 11 _ rfl).1⟩
      clear hK K
      (try simp only [Act.put, List.setIfInBounds_toArray, List.set_cons_zero, List.set_cons_succ])
      refine wpAnyH_ready (rs := [7]) (by kernel_rfl) (by simp) ?_
      refine AllReadyH.cons (o := ?oi8) ?hi8 (fun K hK => ?hstep8) AllReadyH.nil
      case hi8 => (simp only [List.getElem?_toArray, List.getElem?_cons_succ, List.getElem?_cons_zero]; try rfl)
      go_simp
      (refine (rputbool_any o.has _).mono ?_; rintro e w7 ⟨A7, rfl, r7, hb7⟩; have b7 := below_step b6 hb7; have own6 := own_below own6 hb7)
      refine hK.out _ _ ?_ (fun hHeld => ?_)
      · exact ⟨((D b7).2 10 _ rfl).1, ((D b7).2 11 _ rfl).1⟩
      clear hK K
      (try simp only [Act.put, List.setIfInBounds_toArray, List.set_cons_zero, List.set_cons_succ])
      refine wpAnyH_ready (rs := [8]) (by kernel_rfl) (by simp) ?_
      refine AllReadyH.cons (o := ?oi9) ?hi9 (fun K hK => ?hstep9) AllReadyH.nil
      case hi9 => (simp only [List.getElem?_toArray, List.getElem?_cons_succ, List.getElem?_cons_zero]; try rfl)
      (refine oper_app2 rfl (.tmp 52) (.tmp 55) 23 rfl w2.heap.size 5 Tryd.underlying23 infoB rfl (by decide) v6 (80 + (4 + o.b.length)) _ rfl own6 A7 1 1 ([tb o.has].map byt) rfl (by simp) r7 (byt_one _) (by omega) (by omega) b7.size ?_; intro v8 w8 own8 hg8 hat8; have b8 := b7.grown hg8 b7.size (fun k hk => (own_lt own6 hk).1))
      refine hK.out _ _ ?_ (fun hHeld => ?_)
      · exact ⟨((D b8).2 10 _ rfl).1, ((D b8).2 11 _ rfl).1⟩
      clear hK K
      (try simp only [Act.put, List.setIfInBounds_toArray, List.set_cons_zero, List.set_cons_succ])
      refine wpAnyH_take (i := 9) (oi := ?oi10) (v := ?v10) ?hi10 (by kernel_rfl) (by kernel_rfl) (by kernel_rfl) ?hQ10 ?hy10 (by assumption) ?hrest10
      case hi10 => (simp only [List.getElem?_toArray, List.getElem?_cons_succ, List.getElem?_cons_zero]; try rfl)
      case hQ10 => exact fun _ _ _ h => h
      case hy10 =>
        refine Or.inl ⟨by rfl, ?_⟩
        (intro wq hSw; (try dsimp only at hSw); go_simp; try with_reducible rfl)
      (try simp only [Act.put, List.setIfInBounds_toArray, List.set_cons_zero, List.set_cons_succ])
      refine wpAnyH_done (by kernel_rfl) ?_ _
      refine NoPanic.normal ?_
      (skip)
      obtain ⟨l8, e8, z8⟩ : ∃ l8, l8 = (l4 ++ tx o.b) ++ [tb o.has] ∧ l8.length = 80 + (4 + o.b.length) + 1 := ⟨_, rfl, by rw [List.length_append, List.length_append, tx_length, z4.out]; rfl⟩
      rw [← List.map_append, ← List.map_append, ← e8, ← z8] at own8
      have z8' : l8.length ≤ 10000 := by omega
      replace e8 := hid e8
      clear hHeld own4 own4d own5 own6 hB C10 C11 hb5 hg6 hat6 hb7 hg8 hat8 b5 b4d bcur b4 b6 b7 r7 z8
      -- the log
      have C12 := ((D b8).2 12 _ rfl).1
      have C13 := ((D b8).2 13 _ rfl).1
      go_upto_region 11 with fail
      have bcur := (Below.refl w8.heap.size w8).drew
      have b8d := below_step b8 bcur
      have own8d := own_below own8 bcur
      refine wp_region_noPanic ?_
      refine wp_region_held_drew (S := (fun W => W.cell? ⟨w.heap.size, 12, none⟩ = some (.int .i64 o.st) ∧ W.cell? ⟨w.heap.size, 13, none⟩ = some (.slice o.eA o.es.length o.ec))) (by kernel_rfl) ?_ (fun hHeld => ?_)
      · exact ⟨C12, C13⟩
      refine wpAnyH_take (i := 0) (oi := ?oi11) (v := ?v11) ?hi11 (by kernel_rfl) (by kernel_rfl) (by kernel_rfl) ?hQ11 ?hy11 (by assumption) ?hrest11
      case hi11 => (simp only [List.getElem?_toArray, List.getElem?_cons_zero]; try rfl)
      case hQ11 => exact fun _ _ _ h => h
      case hy11 =>
        refine Or.inl ⟨by rfl, ?_⟩
        (intro wq hSw; (try dsimp only at hSw); go_simp; try with_reducible rfl)
      (try simp only [Act.put, List.setIfInBounds_toArray, List.set_cons_zero, List.set_cons_succ])
      refine wpAnyH_take (i := 1) (oi := ?oi12) (v := ?v12) ?hi12 (by kernel_rfl) (by kernel_rfl) (by kernel_rfl) ?hQ12 ?hy12 (by assumption) ?hrest12
      case hi12 => (simp only [List.getElem?_toArray, List.getElem?_cons_succ, List.getElem?_cons_zero]; try rfl)
      case hQ12 => exact fun _ _ _ h => h
      case hy12 =>
        refine Or.inl ⟨by rfl, ?_⟩
        (intro wq hSw; (try dsimp only at hSw); go_simp; try with_reducible rfl)
      (try simp only [Act.put, List.setIfInBounds_toArray, List.set_cons_zero, List.set_cons_succ])
      refine wpAnyH_take (i := 2) (oi := ?oi13) (v := ?v13) ?hi13 (by kernel_rfl) (by kernel_rfl) (by kernel_rfl) ?hQ13 ?hy13 (by assumption) ?hrest13
      case hi13 => (simp only [List.getElem?_toArray, List.getElem?_cons_succ, List.getElem?_cons_zero]; try rfl)
      case hQ13 => exact fun _ _ _ h => h
      case hy13 =>
        refine Or.inl ⟨by rfl, ?_⟩
        (intro wq hSw; (try dsimp only at hSw); go_simp; try with_reducible rfl)
      (try simp only [Act.put, List.setIfInBounds_toArray, List.set_cons_zero, List.set_cons_succ])
      refine wpAnyH_take (i := 3) (oi := ?oi14) (v := ?v14) ?hi14 (by kernel_rfl) (by kernel_rfl) (by kernel_rfl) ?hQ14 ?hy14 (by assumption) ?hrest14
      case hi14 => (simp only [List.getElem?_toArray, List.getElem?_cons_succ, List.getElem?_cons_zero]; try rfl)
      case hQ14 => exact fun _ _ _ h => h
      case hy14 =>
        refine Or.inl ⟨by rfl, ?_⟩
        (intro wq hSw; (try dsimp only at hSw); go_simp; try with_reducible rfl)
      (try simp only [Act.put, List.setIfInBounds_toArray, List.set_cons_zero, List.set_cons_succ])
      refine wpAnyH_take (i := 6) (oi := ?oi15) (v := ?v15) ?hi15 (by kernel_rfl) (by kernel_rfl) (by kernel_rfl) ?hQ15 ?hy15 (by assumption) ?hrest15
      case hi15 => (simp only [List.getElem?_toArray, List.getElem?_cons_succ, List.getElem?_cons_zero]; try rfl)
      case hQ15 => exact fun _ _ _ h => h
      case hy15 =>
        refine Or.inl ⟨by rfl, ?_⟩
        (intro wq hSw; (try dsimp only at hSw); go_simp; try with_reducible rfl)
      (try simp only [Act.put, List.setIfInBounds_toArray, List.set_cons_zero, List.set_cons_succ])
      refine wpAnyH_take (i := 7) (oi := ?oi16) (v := ?v16) ?hi16 (by kernel_rfl) (by kernel_rfl) (by kernel_rfl) ?hQ16 ?hy16 (by assumption) ?hrest16
      case hi16 => (simp only [List.getElem?_toArray, List.getElem?_cons_succ, List.getElem?_cons_zero]; try rfl)
      case hQ16 => exact fun _ _ _ h => h
      case hy16 =>
        refine Or.inl ⟨by rfl, ?_⟩
        (intro wq hSw; (try dsimp only at hSw); go_simp; try with_reducible rfl)
      (try simp only [Act.put, List.setIfInBounds_toArray, List.set_cons_zero, List.set_cons_succ])
      refine wpAnyH_take (i := 8) (oi := ?oi17) (v := ?v17) ?hi17 (by kernel_rfl) (by kernel_rfl) (by kernel_rfl) ?hQ17 ?hy17 (by assumption) ?hrest17
      case hi17 => (simp only [List.getElem?_toArray, List.getElem?_cons_succ, List.getElem?_cons_zero]; try rfl)
      case hQ17 => exact fun _ _ _ h => h
      case hy17 =>
        refine Or.inl ⟨by rfl, ?_⟩
        (intro wq hSw; (try dsimp only at hSw); go_simp; try with_reducible rfl)
      (try simp only [Act.put, List.setIfInBounds_toArray, List.set_cons_zero, List.set_cons_succ])
      refine wpAnyH_take (i := 9) (oi := ?oi18) (v := ?v18) ?hi18 (by kernel_rfl) (by kernel_rfl) (by kernel_rfl) ?hQ18 ?hy18 (by assumption) ?hrest18
      case hi18 => (simp only [List.getElem?_toArray, List.getElem?_cons_succ, List.getElem?_cons_zero]; try rfl)
      case hQ18 => exact fun _ _ _ h => h
      case hy18 =>
        refine Or.inl ⟨by rfl, ?_⟩
        (intro wq hSw; (try dsimp only at hSw); go_simp; try with_reducible rfl)
      (try simp only [Act.put, List.setIfInBounds_toArray, List.set_cons_zero, List.set_cons_succ])
      refine wpAnyH_ready (rs := [4]) (by kernel_rfl) (by simp) ?_
      refine AllReadyH.cons (o := ?oi19) ?hi19 (fun K hK => ?hstep19) AllReadyH.nil
      case hi19 => (simp only [List.getElem?_toArray, List.getElem?_cons_succ, List.getElem?_cons_zero]; try rfl)
      go_simp
      (refine (rputnum_any o.st _).mono ?_; rintro e x1 ⟨u1, rfl, ow1, hx1⟩; have d1 := below_step b8d hx1; have own8 := own_below own8d hx1; obtain ⟨B1, q1, rfl, _⟩ := own_shape ow1)
      refine hK.out _ _ ?_ (fun hHeld => ?_)
      · exact ⟨((D d1).2 12 _ rfl).1, ((D d1).2 13 _ rfl).1⟩
      clear hK K
      (try simp only [Act.put, List.setIfInBounds_toArray, List.set_cons_zero, List.set_cons_succ])
      refine wpAnyH_ready (rs := [5]) (by kernel_rfl) (by simp) ?_
      refine AllReadyH.cons (o := ?oi20) ?hi20 (fun K hK => ?hstep20) AllReadyH.nil
      case hi20 => (simp only [List.getElem?_toArray, List.getElem?_cons_succ, List.getElem?_cons_zero]; try rfl)
      (refine oper_app2 rfl (.tmp 57) (.tmp 61) 23 rfl w2.heap.size 5 Tryd.underlying23 infoB rfl (by decide) v8 l8.length _ rfl own8 B1 8 q1 ((be 8 o.st).map byt) rfl (by rw [List.length_map, be_length]) (own_rd ow1) (byt_one _) (by omega) (by omega) d1.size ?_; intro u2 x2 ow2 hg2 hat2; have d2 := d1.grown hg2 d1.size (fun k hk => (own_lt own8 hk).1))
      refine hK.out _ _ ?_ (fun hHeld => ?_)
      · exact ⟨((D d2).2 12 _ rfl).1, ((D d2).2 13 _ rfl).1⟩
      clear hK K
      (try simp only [Act.put, List.setIfInBounds_toArray, List.set_cons_zero, List.set_cons_succ])
      refine wpAnyH_ready (rs := [10]) (by kernel_rfl) (by simp) ?_
      refine AllReadyH.cons (o := ?oi21) ?hi21 (fun K hK => ?hstep21) AllReadyH.nil
      case hi21 => (simp only [List.getElem?_toArray, List.getElem?_cons_succ, List.getElem?_cons_zero]; try rfl)
      go_simp
      (refine (rputnum_any o.es.length _).mono ?_; rintro e x3 ⟨u3, rfl, ow3, hx3⟩; have d3 := below_step d2 hx3; have ow2 := own_below ow2 hx3; obtain ⟨B3, q3, rfl, _⟩ := own_shape ow3)
      refine hK.out _ _ ?_ (fun hHeld => ?_)
      · exact ⟨((D d3).2 12 _ rfl).1, ((D d3).2 13 _ rfl).1⟩
      clear hK K
      (try simp only [Act.put, List.setIfInBounds_toArray, List.set_cons_zero, List.set_cons_succ])
      refine wpAnyH_ready (rs := [11]) (by kernel_rfl) (by simp) ?_
      refine AllReadyH.cons (o := ?oi22) ?hi22 (fun K hK => ?hstep22) AllReadyH.nil
      case hi22 => (simp only [List.getElem?_toArray, List.getElem?_cons_succ, List.getElem?_cons_zero]; try rfl)
      (refine oper_app2 rfl (.tmp 62) (.tmp 67) 23 rfl w2.heap.size 5 Tryd.underlying23 infoB rfl (by decide) u2 (l8.length + 8) _ rfl ow2 B3 8 q3 ((be 8 (o.es.length : Int)).map byt) rfl (by rw [List.length_map, be_length]) (own_rd ow3) (byt_one _) (by omega) (by omega) d3.size ?_; intro v9 w9 own9 hg9 hat9; have b9 := d3.grown hg9 d3.size (fun k hk => (own_lt ow2 hk).1))
      refine hK.out _ _ ?_ (fun hHeld => ?_)
      · exact ⟨((D b9).2 12 _ rfl).1, ((D b9).2 13 _ rfl).1⟩
      clear hK K
      (try simp only [Act.put, List.setIfInBounds_toArray, List.set_cons_zero, List.set_cons_succ])
      refine wpAnyH_take (i := 12) (oi := ?oi23) (v := ?v23) ?hi23 (by kernel_rfl) (by kernel_rfl) (by kernel_rfl) ?hQ23 ?hy23 (by assumption) ?hrest23
      case hi23 => (simp only [List.getElem?_toArray, List.getElem?_cons_succ, List.getElem?_cons_zero]; try rfl)
      case hQ23 => exact fun _ _ _ h => h
      case hy23 =>
        refine Or.inl ⟨by rfl, ?_⟩
        (intro wq hSw; (try dsimp only at hSw); go_simp; try with_reducible rfl)
      (try simp only [Act.put, List.setIfInBounds_toArray, List.set_cons_zero, List.set_cons_succ])
      refine wpAnyH_done (by kernel_rfl) ?_ _
      refine NoPanic.normal ?_
      (skip)
      obtain ⟨l9, e9, z9⟩ : ∃ l9, l9 = (l8 ++ be 8 o.st) ++ be 8 (o.es.length : Int) ∧ l9.length = l8.length + 8 + 8 := ⟨_, rfl, by rw [List.length_append, List.length_append, be_length, be_length]⟩
      rw [← List.map_append, ← List.map_append, ← e9, ← z9] at own9
      have z9' : l9.length ≤ 10100 := by omega
      replace e9 := hid e9
      clear hHeld own8 own8d ow1 ow2 ow3 hx1 hx3 hg2 hat2 hg9 hat9 d1 d2 d3 b8d bcur b8 C12 C13 z9 z8'
      go_wp2_with fail
      go_loopw [6, 8] (fun s6 i W => ∃ (k : Nat) (vk : Value), k ≤ o.es.length ∧ i = .int .i64 k ∧ s6 = vk ∧ W.ownsRow w2.heap.size 5 1 vk (l9 ++ ((o.es.map En.data).take k).flatMap putV).length ((l9 ++ ((o.es.map En.data).take k).flatMap putV).map byt) ∧ Below w2.heap.size w2 W) (fun _ i _ => o.es.length - (RowKit.intOf i).toNat)
      case atStart => exact ⟨0, v9, by omega, rfl, rfl, by simpa using own9, b9⟩
      case round =>
        clear b9 own9
        obtain ⟨k, vk, hk, rfl, hs0, ownk, bk⟩ := hrel
        replace hs0 := hs0.symm
        subst hs0
        have C13 := ((D bk).2 13 _ rfl).1
        by_cases hlt : k < o.es.length
        · have i1 : (k : Int) < o.es.length := by omega
          have hE := h2.e.below bk
          obtain ⟨ad, hAd, x0, x1, x2, rx⟩ := en_at hE k hlt
          have hcp := ent_cap hE k hlt
          have rxx := fun {W : World} (hb : Below w2.heap.size w2 W) => (en_at (h2.e.below hb) k hlt)
          have h8k : o.es[k].op.length ≤ 8192 := hR4 o.es[k].data (List.mem_map_of_mem (List.getElem_mem hlt))
          have HST : Hid ((l9 ++ ((o.es.map En.data).take k).flatMap putV) ++ putV o.es[k].data = l9 ++ ((o.es.map En.data).take (k + 1)).flatMap putV) := by
            rw [entsB_step (o.es.map En.data) k (by simpa using hlt), List.append_assoc, List.getElem_map]; exact hid rfl
          have hlk : (l9 ++ ((o.es.map En.data).take k).flatMap putV).length ≤ 1000000 := by
            have := entsB_le (o.es.map En.data) hR4 k
            rw [List.length_append]; omega
          generalize l9 ++ ((o.es.map En.data).take k).flatMap putV = lk at ownk HST hlk
          obtain ⟨x, hx⟩ : ∃ x, x = o.es[k] := ⟨_, rfl⟩
          rw [← hx] at x0 x1 x2 rx hcp h8k HST
          replace hx := hid hx
          have hrx : ∀ {W : World}, Below w2.heap.size w2 W → Rd W x.A (x.op.map byt) := fun hb => by
            obtain ⟨_, _, _, _, _, r⟩ := rxx hb
            rw [hx.out]; exact r
          clear rxx rx hE
          rw [hAd] at C13
          replace hAd := hid hAd
          have bA := below_alloc wr (.cells #[.int .i64 x.c, .int .i64 x.r, .slice x.A x.op.length x.cap] 43)
          have V := Var3.new wr (.int .i64 x.c) (.int .i64 x.r) (.slice x.A x.op.length x.cap) 43
          have ownA := own_below ownk bA
          have hne : vk.ownBlock ≠ some wr.heap.size := fun he => by have := (own_lt ownk he).2; omega
          go_upto_region 16 with fail
          generalize wr.alloc _ = wA at bA V ownA ⊢
          obtain ⟨X0, X1, X2, _, _, _, zV⟩ := V
          replace bk := below_step bk bA
          clear ownk x0 x1 x2 C13
          have bcur := (Below.refl wA.heap.size wA).drew
          have bkd := below_step bk bcur
          have ownd := own_below ownA bcur
          refine wp_region_noPanic ?_
          refine wp_region_held_drew (S := (fun W => W.cell? ⟨wr.heap.size, 0, none⟩ = some (.int .i64 x.c) ∧ W.cell? ⟨wr.heap.size, 1, none⟩ = some (.int .i64 x.r) ∧ W.cell? ⟨wr.heap.size, 2, none⟩ = some (.slice x.A x.op.length x.cap))) (by kernel_rfl) ?_ (fun hHeld => ?_)
          · exact ⟨X0, X1, X2⟩
          refine wpAnyH_take (i := 0) (oi := ?oi24) (v := ?v24) ?hi24 (by kernel_rfl) (by kernel_rfl) (by kernel_rfl) ?hQ24 ?hy24 (by assumption) ?hrest24
          case hi24 => (simp only [List.getElem?_toArray, List.getElem?_cons_zero]; try rfl)
          case hQ24 => exact fun _ _ _ h => h
          case hy24 =>
            refine Or.inl ⟨by rfl, ?_⟩
            (intro wq hSw; (try dsimp only at hSw); go_simp; try with_reducible rfl)
          (try simp only [Act.put, List.setIfInBounds_toArray, List.set_cons_zero, List.set_cons_succ])
          refine wpAnyH_take (i := 1) (oi := ?oi25) (v := ?v25) ?hi25 (by kernel_rfl) (by kernel_rfl) (by kernel_rfl) ?hQ25 ?hy25 (by assumption) ?hrest25
          case hi25 => (simp only [List.getElem?_toArray, List.getElem?_cons_succ, List.getElem?_cons_zero]; try rfl)
          case hQ25 => exact fun _ _ _ h => h
          case hy25 =>
            refine Or.inl ⟨by rfl, ?_⟩
            (intro wq hSw; (try dsimp only at hSw); go_simp; try with_reducible rfl)
          (try simp only [Act.put, List.setIfInBounds_toArray, List.set_cons_zero, List.set_cons_succ])
          refine wpAnyH_take (i := 2) (oi := ?oi26) (v := ?v26) ?hi26 (by kernel_rfl) (by kernel_rfl) (by kernel_rfl) ?hQ26 ?hy26 (by assumption) ?hrest26
          case hi26 => (simp only [List.getElem?_toArray, List.getElem?_cons_succ, List.getElem?_cons_zero]; try rfl)
          case hQ26 => exact fun _ _ _ h => h
          case hy26 =>
            refine Or.inl ⟨by rfl, ?_⟩
            (intro wq hSw; (try dsimp only at hSw); go_simp; try with_reducible rfl)
          (try simp only [Act.put, List.setIfInBounds_toArray, List.set_cons_zero, List.set_cons_succ])
          refine wpAnyH_take (i := 5) (oi := ?oi27) (v := ?v27) ?hi27 (by kernel_rfl) (by kernel_rfl) (by kernel_rfl) ?hQ27 ?hy27 (by assumption) ?hrest27
          case hi27 => (simp only [List.getElem?_toArray, List.getElem?_cons_succ, List.getElem?_cons_zero]; try rfl)
          case hQ27 => exact fun _ _ _ h => h
          case hy27 =>
            refine Or.inl ⟨by rfl, ?_⟩
            (intro wq hSw; (try dsimp only at hSw); go_simp; try with_reducible rfl)
          (try simp only [Act.put, List.setIfInBounds_toArray, List.set_cons_zero, List.set_cons_succ])
          refine wpAnyH_take (i := 6) (oi := ?oi28) (v := ?v28) ?hi28 (by kernel_rfl) (by kernel_rfl) (by kernel_rfl) ?hQ28 ?hy28 (by assumption) ?hrest28
          case hi28 => (simp only [List.getElem?_toArray, List.getElem?_cons_succ, List.getElem?_cons_zero]; try rfl)
          case hQ28 => exact fun _ _ _ h => h
          case hy28 =>
            refine Or.inl ⟨by rfl, ?_⟩
            (intro wq hSw; (try dsimp only at hSw); go_simp; try with_reducible rfl)
          (try simp only [Act.put, List.setIfInBounds_toArray, List.set_cons_zero, List.set_cons_succ])
          refine wpAnyH_ready (rs := [3]) (by kernel_rfl) (by simp) ?_
          refine AllReadyH.cons (o := ?oi29) ?hi29 (fun K hK => ?hstep29) AllReadyH.nil
          case hi29 => (simp only [List.getElem?_toArray, List.getElem?_cons_succ, List.getElem?_cons_zero]; try rfl)
          go_simp
          (refine (rputnum_any x.c _).mono ?_; rintro e y1 ⟨u1, rfl, ow1, hy1⟩; have d1 := below_step bkd hy1; have own8 := own_below ownd hy1; have X0 := cell_on hy1 X0; have X1 := cell_on hy1 X1; have X2 := cell_on hy1 X2; obtain ⟨B1, q1, rfl, _⟩ := own_shape ow1)
          refine hK.out _ _ ?_ (fun hHeld => ?_)
          · exact ⟨X0, X1, X2⟩
          clear hK K
          (try simp only [Act.put, List.setIfInBounds_toArray, List.set_cons_zero, List.set_cons_succ])
          refine wpAnyH_ready (rs := [4]) (by kernel_rfl) (by simp) ?_
          refine AllReadyH.cons (o := ?oi30) ?hi30 (fun K hK => ?hstep30) AllReadyH.nil
          case hi30 => (simp only [List.getElem?_toArray, List.getElem?_cons_succ, List.getElem?_cons_zero]; try rfl)
          (refine oper_app2 rfl (.tmp 83) (.tmp 86) 23 rfl w2.heap.size 5 Tryd.underlying23 infoB rfl (by decide) vk lk.length _ rfl own8 B1 8 q1 ((be 8 x.c).map byt) rfl (by rw [List.length_map, be_length]) (own_rd ow1) (byt_one _) (by omega) (by omega) d1.size ?_; intro u2 y2 ow2 hg2 hat2; have d2 := d1.grown hg2 d1.size (fun k hk => (own_lt own8 hk).1); have X0 := hg2.cell X0 (fun e => hne e.symm); have X1 := hg2.cell X1 (fun e => hne e.symm); have X2 := hg2.cell X2 (fun e => hne e.symm); have hne2 : u2.ownBlock ≠ some wr.heap.size := (by rcases hat2 with h | h; (rw [h]; exact hne); (rw [h]; intro e; injection e with e; have h1 := cell_lt X0; have h3 := hy1.size; have h4 : wA.drew.heap.size = wA.heap.size := rfl; omega)))
          refine hK.out _ _ ?_ (fun hHeld => ?_)
          · exact ⟨X0, X1, X2⟩
          clear hK K
          (try simp only [Act.put, List.setIfInBounds_toArray, List.set_cons_zero, List.set_cons_succ])
          refine wpAnyH_ready (rs := [7]) (by kernel_rfl) (by simp) ?_
          refine AllReadyH.cons (o := ?oi31) ?hi31 (fun K hK => ?hstep31) AllReadyH.nil
          case hi31 => (simp only [List.getElem?_toArray, List.getElem?_cons_succ, List.getElem?_cons_zero]; try rfl)
          go_simp
          (refine (rputnum_any x.r _).mono ?_; rintro e y3 ⟨u3, rfl, ow3, hy3⟩; have d3 := below_step d2 hy3; have ow2 := own_below ow2 hy3; have X0 := cell_on hy3 X0; have X1 := cell_on hy3 X1; have X2 := cell_on hy3 X2; obtain ⟨B3, q3, rfl, _⟩ := own_shape ow3)
          refine hK.out _ _ ?_ (fun hHeld => ?_)
          · exact ⟨X0, X1, X2⟩
          clear hK K
          (try simp only [Act.put, List.setIfInBounds_toArray, List.set_cons_zero, List.set_cons_succ])
          refine wpAnyH_ready (rs := [8]) (by kernel_rfl) (by simp) ?_
          refine AllReadyH.cons (o := ?oi32) ?hi32 (fun K hK => ?hstep32) AllReadyH.nil
          case hi32 => (simp only [List.getElem?_toArray, List.getElem?_cons_succ, List.getElem?_cons_zero]; try rfl)
          (refine oper_app2 rfl (.tmp 87) (.tmp 90) 23 rfl w2.heap.size 5 Tryd.underlying23 infoB rfl (by decide) u2 (lk.length + 8) _ rfl ow2 B3 8 q3 ((be 8 x.r).map byt) rfl (by rw [List.length_map, be_length]) (own_rd ow3) (byt_one _) (by omega) (by omega) d3.size ?_; intro u4 y4 ow4 hg4 hat4; have d4 := d3.grown hg4 d3.size (fun k hk => (own_lt ow2 hk).1); have X0 := hg4.cell X0 (fun e => hne2 e.symm); have X1 := hg4.cell X1 (fun e => hne2 e.symm); have X2 := hg4.cell X2 (fun e => hne2 e.symm))
          refine hK.out _ _ ?_ (fun hHeld => ?_)
          · exact ⟨X0, X1, X2⟩
          clear hK K
          (try simp only [Act.put, List.setIfInBounds_toArray, List.set_cons_zero, List.set_cons_succ])
          refine wpAnyH_take (i := 9) (oi := ?oi33) (v := ?v33) ?hi33 (by kernel_rfl) (by kernel_rfl) (by kernel_rfl) ?hQ33 ?hy33 (by assumption) ?hrest33
          case hi33 => (simp only [List.getElem?_toArray, List.getElem?_cons_succ, List.getElem?_cons_zero]; try rfl)
          case hQ33 => exact fun _ _ _ h => h
          case hy33 =>
            refine Or.inl ⟨by rfl, ?_⟩
            (intro wq hSw; (try dsimp only at hSw); go_simp; try with_reducible rfl)
          (try simp only [Act.put, List.setIfInBounds_toArray, List.set_cons_zero, List.set_cons_succ])
          refine wpAnyH_done (by kernel_rfl) ?_ _
          refine NoPanic.normal ?_
          (skip)
          obtain ⟨l5, e5, z5⟩ : ∃ l5, l5 = (lk ++ be 8 x.c) ++ be 8 x.r ∧ l5.length = lk.length + 8 + 8 := ⟨_, rfl, by rw [List.length_append, List.length_append, be_length, be_length]⟩
          rw [← List.map_append, ← List.map_append, ← e5, ← z5] at ow4
          have z5' : l5.length ≤ 1000100 := by omega
          replace e5 := hid e5
          clear hHeld own8 ownA ownd ow1 ow2 ow3 hy1 hy3 hg2 hat2 hg4 hat4 d1 d2 d3 bkd bcur X0 X1 hne2 z5
          have K5 := hid (rptext_n (c := x.cap) x.op.length rfl (hrx d4) (by omega))
          go_wp2_with fail
          refine K5.out.mono ?_
          rintro e y6 ⟨u6, rfl, ow6, hy6⟩
          have d6 := below_step d4 hy6
          have ow5 := own_below ow4 hy6
          obtain ⟨B6, q6, rfl, _⟩ := own_shape ow6
          have zy : w2.heap.size ≤ y6.heap.size := d6.size
          go_wp2_with (at_builtin; refine wpList_app rfl (.tmp 92) (.tmp 95) 23 rfl w2.heap.size 5 Tryd.underlying23 infoB rfl (by decide) u4 l5.length _ rfl ow5 B6 (4 + x.op.length) q6 ((tx x.op).map byt) rfl (by rw [List.length_map, tx_length]; omega) (own_rd ow6) (byt_one _) (by omega) (by omega) zy ?_; intro u7 y7 ow7 hg7 hat7)
          have d7 := d6.grown hg7 zy (fun j hj => (own_lt ow5 hj).1)
          have e10 : l5 ++ tx x.op = l9 ++ ((o.es.map En.data).take (k + 1)).flatMap putV := by
            rw [← HST.out, e5.out, List.append_assoc, List.append_assoc]; simp [putV, En.data]
          rw [← List.map_append, show l5.length + (4 + x.op.length) = (l5 ++ tx x.op).length by rw [List.length_append, tx_length], e10] at ow7
          replace e10 := hid e10
          clear K5 ow4 ow5 ow6 hy6 X2
          go_roundw
          case rel => exact ⟨k + 1, _, by omega, by go_num, rfl, ow7, d7⟩
          case measure => simp [RowKit.intOf]; omega
        · obtain rfl : k = o.es.length := by omega
          have hlk : (l9 ++ ((o.es.map En.data).take o.es.length).flatMap putV).length ≤ 1000000 := by
            have := entsB_le (o.es.map En.data) hR4 o.es.length
            rw [List.length_append]; omega
          rw [List.take_of_length_le (by simp)] at ownk hlk
          obtain ⟨lk, ek⟩ : ∃ lk, lk = l9 ++ (o.es.map En.data).flatMap putV := ⟨_, rfl⟩
          rw [← ek] at ownk hlk
          replace ek := hid ek
          have C14 := ((D bk).2 14 _ rfl).1
          have K10 := hid (rptext_n (c := o.kc) o.chk.length rfl (h2.k.below bk) (by omega))
          go_wp2_with fail
          refine K10.out.mono ?_
          rintro e w10 ⟨v10, rfl, own10, hb10⟩
          have b10 := below_step bk hb10
          have ownk2 := own_below ownk hb10
          obtain ⟨A10, c10, rfl, _⟩ := own_shape own10
          have z10 : w2.heap.size ≤ w10.heap.size := b10.size
          go_wp2_with (at_builtin; refine wpList_app rfl (.tmp 97) (.tmp 100) 23 rfl w2.heap.size 5 Tryd.underlying23 infoB rfl (by decide) vk lk.length _ rfl ownk2 A10 (4 + o.chk.length) c10 ((tx o.chk).map byt) rfl (by rw [List.length_map, tx_length]; omega) (own_rd own10) (byt_one _) (by omega) (by omega) z10 ?_; intro v11 w11 own11 hg11 hat11; have b11 := b10.grown hg11 z10 (fun j hj => (own_lt ownk2 hj).1); obtain ⟨A11, c11, hv11, _⟩ := own_shape own11; subst hv11)
          have e11 : lk ++ tx o.chk = putM o.data := by
            rw [ek.out, e9.out, e8.out, e4.out]
            simp [putM, Ma.data]
          rw [← List.map_append, show lk.length + (4 + o.chk.length) = (lk ++ tx o.chk).length by rw [List.length_append, tx_length], e11] at own11
          have zm : (putM o.data).length ≤ 140737488351232 := by rw [← e11, List.length_append, tx_length]; omega
          have e12 : lk.length + (4 + o.chk.length) = (putM o.data).length := by rw [← e11, List.length_append, tx_length]
          replace e11 := hid e11
          obtain ⟨lm, elm⟩ : ∃ lm, putM o.data = lm := ⟨_, rfl⟩
          rw [elm] at own11 zm e12
          replace elm := hid elm
          have K12 := rseal_any (c := c11) (own_rd own11) zm
          rw [← e12] at K12
          replace K12 := hid K12
          replace e12 := hid e12
          clear K10 ownk ownk2 own10 hb10 C14 own11 hg11 hat11
          refine K12.out.mono ?_
          rintro e w12 ⟨v12, rfl, own12, hb12⟩
          have b12 := b0.trans (b11.trans (hb12.mono b11.size) |>.mono b0.size)
          clear K12
          go_wp2_with fail
          go_ret2
          refine ⟨_, rfl, ?_, b12⟩
          rw [elm.out, sealed_length, ← e12.out]
          exact own_mono own12 (Nat.le_trans b0.size b11.size)
end Go.Proofs.YtgkdnhbhmebmeaaDoor
