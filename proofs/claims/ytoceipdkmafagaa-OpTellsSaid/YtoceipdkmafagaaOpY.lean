import Derived.Test.YtoceipdkmafagaaOpX
import Derived.Test.YtoceipdkmafagaaOpE
import Derived.Test.YtoceipdkmafagaaOpI
import Derived.Test.YtoceipdkmafagaaOpJ
/-! the ref's op: an operation's bytes, a reply's bytes -/
namespace Go.Proofs.Ytoceipdkmafagaa
open Go.RowKit Go.Cov
set_option maxRecDepth 100000 in
set_option maxHeartbeats 12800000 in
theorem rput_any (o : Oa) {w : World} (h : OaRd w o) :
    Calls Try.prog 14 #[o.val] w fun e w' => ∃ v, e = .returned (.tuple #[v, .int .i64 (bytesO o.data).2]) ∧ w'.ownsRow w.heap.size 5 1 v (bytesO o.data).1.length ((bytesO o.data).1.map byt) ∧ Below w.heap.size w w' := by
  have hov : o.val = .agg #[.int .i64 o.k, .string (str o.n), .slice o.sA o.s.length o.sc, .string (str o.f), .slice o.aA o.a.length o.ac, .int .i64 o.g, .slice o.kA o.key.length o.kc] := rfl
  have hrt := fun (W : World) (hW : OaRd W o) => rright_any o hW
  rw [hov] at hrt ⊢
  clear hov
  replace hrt := hid hrt
  have b0 := below_alloc w (.cells #[.int .i64 o.k, .string (str o.n), .slice o.sA o.s.length o.sc, .string (str o.f), .slice o.aA o.a.length o.ac, .int .i64 o.g, .slice o.kA o.key.length o.kc] 25)
  have R0 := Row.new w [.int .i64 o.k, .string (str o.n), .slice o.sA o.s.length o.sc, .string (str o.f), .slice o.aA o.a.length o.ac, .int .i64 o.g, .slice o.kA o.key.length o.kc] 25
  go_enter Try.func14, Try.ntmps14
  go_upto_region 1 with fail
  generalize hw0 : w.alloc _ = w0 at b0 R0 ⊢
  have n0 : Hid (w0.heap.size = w.heap.size + 1) := by rw [← hw0]; exact hid (by simp)
  clear hw0
  have h0 := h.below b0
  have C0 := (R0.2 0 _ rfl).1
  have C1 := (R0.2 1 _ rfl).1
  have C2 := (R0.2 2 _ rfl).1
  have C3 := (R0.2 3 _ rfl).1
  have C4 := (R0.2 4 _ rfl).1
  have C5 := (R0.2 5 _ rfl).1
  have C6 := (R0.2 6 _ rfl).1
  go_wp2_with fail
  refine (hrt.out w0 h0).mono ?_
  rintro e w1 ⟨rfl, hb1⟩
  clear hrt C0 C1 C2 C3 C4 C5 C6
  have b01 := below_step b0 hb1
  have R1 := R0.below hb1
  have h1 := h0.below hb1
  have zw : w.heap.size ≤ w1.heap.size := b01.size
  clear b0 hb1 R0 h0
  cases hR : rightO o.data
  case false =>
    replace hR := hid hR
    go_wp2_with fail
    go_ret2
    exact ⟨_, by rw [bytesO_no hR.out]; rfl, by rw [bytesO_no hR.out]; exact World.ownsRow_nil _ _ _ _, b01⟩
  replace hR := hid hR
  have hR1 : 1 ≤ o.k ∧ o.k ≤ 3 ∧ o.n.length ≤ 16 ∧ o.f.length ≤ 16 ∧ o.s.length ≤ 4097 ∧ o.key.length ≤ 65 ∧ o.a.length ≤ 16 := by
    have h2 := hR.out
    rw [rightO_of, Bool.and_eq_true] at h2
    exact of_decide_eq_true h2.1
  have hR3 : ∀ x ∈ o.a.map En.data, x.2.2.length ≤ 256 := fun x hx => by
    have h2 := hR.out
    rw [rightO_of, Bool.and_eq_true] at h2
    have := List.all_eq_true.1 h2.2 x hx
    unfold argOk at this
    rw [Bool.and_eq_true] at this
    exact plain_le this.2
  have C0 := (R1.2 0 _ rfl).1
  go_wp2_with fail
  refine (rputnum_any o.k w1).mono ?_
  rintro e wx ⟨v0, rfl, own, hbx⟩
  have bc := hbx
  obtain ⟨l0, hl0, z0⟩ : ∃ L, Hid (L = be 8 o.k) ∧ L.length = 8 := ⟨_, hid rfl, be_length _ _⟩
  replace own : wx.ownsRow w1.heap.size 5 1 v0 l0.length (l0.map byt) := by rw [z0, hl0.out]; exact own
  replace z0 : l0.length ≤ 10 := by omega
  clear hbx C0
  go_upto_region 5 with fail
  have C1 := ((R1.below bc).2 1 _ rfl).1
  have b6 := sbW_below 5 wx o.n
  have g6 := sbW_rd 5 wx o.n
  have CV := conv_str wx o.n
  replace own := own_below own b6
  replace bc := below_step bc b6
  generalize sbW 5 wx o.n = ws at b6 g6 CV own bc
  generalize sbCap 5 wx o.n = ks at CV
  go_wp2_with fail
  refine (rtext_n o.n.length rfl g6 (by omega)).mono ?_
  rintro e wx ⟨vx, rfl, ownx, hbx⟩
  replace own := own_below own hbx
  replace bc := below_step bc hbx
  obtain ⟨Ax, cx, rfl, _⟩ := own_shape ownx
  have zc := bc.size
  go_upto_region 6 with (at_builtin; refine wpList_app rfl (.tmp 14) (.tmp 18) 22 rfl w1.heap.size 5 Try.underlying22 infoB rfl (by decide) v0 l0.length (l0.map byt) rfl own Ax (4 + o.n.length) cx ((tx o.n).map byt) rfl (by simp only [List.length_map, tx_length] <;> omega) (own_rd ownx) (byt_one _) (by omega) (by omega) zc ?_; intro v1 w1a own9 hg9 hat9)
  have bc9 := bc.grown hg9 zc (fun k hk => (own_lt own hk).1)
  obtain ⟨l1, hl1, z1⟩ : ∃ L, Hid (L = l0 ++ (tx o.n)) ∧ L.length ≤ 100 := ⟨_, hid rfl, by simp only [List.length_append, tx_length] <;> omega⟩
  replace own9 : w1a.ownsRow w1.heap.size 5 1 v1 l1.length (l1.map byt) := by
    have e : l1.length = l0.length + (4 + o.n.length) := by rw [hl1.out]; simp only [List.length_append, tx_length]
    rw [e, hl1.out, List.map_append]; exact own9
  clear own bc hg9 hat9 ownx hbx zc C1 CV g6 b6
  have own := own9
  have bc := bc9
  clear own9 bc9
  have C2 := ((R1.below bc).2 2 _ rfl).1
  go_wp2_with fail
  refine (rtext_n o.s.length rfl (h1.s.below bc) (by omega)).mono ?_
  rintro e wx ⟨vx, rfl, ownx, hbx⟩
  replace own := own_below own hbx
  replace bc := below_step bc hbx
  obtain ⟨Ax, cx, rfl, _⟩ := own_shape ownx
  have zc := bc.size
  go_upto_region 7 with (at_builtin; refine wpList_app rfl (.tmp 20) (.tmp 23) 22 rfl w1.heap.size 5 Try.underlying22 infoB rfl (by decide) v1 l1.length (l1.map byt) rfl own Ax (4 + o.s.length) cx ((tx o.s).map byt) rfl (by simp only [List.length_map, tx_length] <;> omega) (own_rd ownx) (byt_one _) (by omega) (by omega) zc ?_; intro v2 w2a own9 hg9 hat9)
  have bc9 := bc.grown hg9 zc (fun k hk => (own_lt own hk).1)
  obtain ⟨l2, hl2, z2⟩ : ∃ L, Hid (L = l1 ++ (tx o.s)) ∧ L.length ≤ 10000 := ⟨_, hid rfl, by simp only [List.length_append, tx_length] <;> omega⟩
  replace own9 : w2a.ownsRow w1.heap.size 5 1 v2 l2.length (l2.map byt) := by
    have e : l2.length = l1.length + (4 + o.s.length) := by rw [hl2.out]; simp only [List.length_append, tx_length]
    rw [e, hl2.out, List.map_append]; exact own9
  clear own bc hg9 hat9 ownx hbx zc C2
  have own := own9
  have bc := bc9
  clear own9 bc9
  have C3 := ((R1.below bc).2 3 _ rfl).1
  have b6 := sbW_below 5 w2a o.f
  have g6 := sbW_rd 5 w2a o.f
  have CV := conv_str w2a o.f
  replace own := own_below own b6
  replace bc := below_step bc b6
  generalize sbW 5 w2a o.f = ws at b6 g6 CV own bc
  generalize sbCap 5 w2a o.f = ks at CV
  go_wp2_with fail
  refine (rtext_n o.f.length rfl g6 (by omega)).mono ?_
  rintro e wx ⟨vx, rfl, ownx, hbx⟩
  replace own := own_below own hbx
  replace bc := below_step bc hbx
  obtain ⟨Ax, cx, rfl, _⟩ := own_shape ownx
  have zc := bc.size
  go_upto_region 8 with (at_builtin; refine wpList_app rfl (.tmp 25) (.tmp 29) 22 rfl w1.heap.size 5 Try.underlying22 infoB rfl (by decide) v2 l2.length (l2.map byt) rfl own Ax (4 + o.f.length) cx ((tx o.f).map byt) rfl (by simp only [List.length_map, tx_length] <;> omega) (own_rd ownx) (byt_one _) (by omega) (by omega) zc ?_; intro v3 w3a own9 hg9 hat9)
  have bc9 := bc.grown hg9 zc (fun k hk => (own_lt own hk).1)
  obtain ⟨l3, hl3, z3⟩ : ∃ L, Hid (L = l2 ++ (tx o.f)) ∧ L.length ≤ 10100 := ⟨_, hid rfl, by simp only [List.length_append, tx_length] <;> omega⟩
  replace own9 : w3a.ownsRow w1.heap.size 5 1 v3 l3.length (l3.map byt) := by
    have e : l3.length = l2.length + (4 + o.f.length) := by rw [hl3.out]; simp only [List.length_append, tx_length]
    rw [e, hl3.out, List.map_append]; exact own9
  clear own bc hg9 hat9 ownx hbx zc C3 CV g6 b6
  have own := own9
  have bc := bc9
  clear own9 bc9
  have C4 := ((R1.below bc).2 4 _ rfl).1
  go_wp2_with fail
  refine (rputnum_any (o.a.length : Int) _).mono ?_
  rintro e wx ⟨vx, rfl, ownx, hbx⟩
  replace own := own_below own hbx
  replace bc := below_step bc hbx
  obtain ⟨Ax, cx, rfl, _⟩ := own_shape ownx
  have zc := bc.size
  go_upto_region 9 with (at_builtin; refine wpList_app rfl (.tmp 31) (.tmp 35) 22 rfl w1.heap.size 5 Try.underlying22 infoB rfl (by decide) v3 l3.length (l3.map byt) rfl own Ax (8) cx ((be 8 (o.a.length : Int)).map byt) rfl (by simp only [List.length_map, be_length] <;> omega) (own_rd ownx) (byt_one _) (by omega) (by omega) zc ?_; intro v4 w4a own9 hg9 hat9)
  have bc9 := bc.grown hg9 zc (fun k hk => (own_lt own hk).1)
  obtain ⟨l4, hl4, z4⟩ : ∃ L, Hid (L = l3 ++ (be 8 (o.a.length : Int))) ∧ L.length ≤ 10200 := ⟨_, hid rfl, by simp only [List.length_append, be_length] <;> omega⟩
  replace own9 : w4a.ownsRow w1.heap.size 5 1 v4 l4.length (l4.map byt) := by
    have e : l4.length = l3.length + (8) := by rw [hl4.out]; simp only [List.length_append, be_length]
    rw [e, hl4.out, List.map_append]; exact own9
  clear own bc hg9 hat9 ownx hbx zc C4
  have own := own9
  have bc := bc9
  clear own9 bc9
  go_wp2_with fail
  go_loopw [5, 6] (fun s5 i W => ∃ (k : Nat) (vk : Value), k ≤ o.a.length ∧ i = .int .i64 k ∧ s5 = vk ∧ W.ownsRow w1.heap.size 5 1 vk (l4 ++ ((o.a.map En.data).take k).flatMap putV).length ((l4 ++ ((o.a.map En.data).take k).flatMap putV).map byt) ∧ Below w1.heap.size w1 W) (fun _ i _ => o.a.length - (RowKit.intOf i).toNat)
  case atStart => exact ⟨0, v4, by omega, rfl, rfl, by simpa using own, bc⟩
  case round =>
    clear own bc
    obtain ⟨k, vk, hk, rfl, hs5, own, bc⟩ := hrel
    replace hs5 := hs5.symm
    subst hs5
    have C4 := ((R1.below bc).2 4 _ rfl).1
    by_cases hlt : k < o.a.length
    · have i1 : (k : Int) < o.a.length := by omega
      obtain ⟨ad, hAd, x0, x1, x2, rx⟩ := en_at (h1.a.below bc) k hlt
      rw [hAd] at C4
      replace hAd := hid hAd
      have h256 : o.a[k].op.length ≤ 256 := hR3 o.a[k].data (List.mem_map_of_mem (List.getElem_mem hlt))
      have HST : Hid ((l4 ++ ((o.a.map En.data).take k).flatMap putV) ++ putV o.a[k].data = l4 ++ ((o.a.map En.data).take (k + 1)).flatMap putV) := by
        rw [valsB_step (o.a.map En.data) k (by simpa using hlt), List.append_assoc, List.getElem_map]; exact hid rfl
      have hlk : (l4 ++ ((o.a.map En.data).take k).flatMap putV).length ≤ 100000 := by
        have := valsB_le (o.a.map En.data) hR3 k
        rw [List.length_append]; omega
      generalize l4 ++ ((o.a.map En.data).take k).flatMap putV = lk at own HST hlk
      go_wp2_with fail
      refine (refvalue_any o.a[k] rx (by omega)).mono ?_
      rintro e wx ⟨vx, rfl, ownx, hbx⟩
      replace own := own_below own hbx
      replace bc := below_step bc hbx
      obtain ⟨Ax, cx, rfl, _⟩ := own_shape ownx
      have zc := bc.size
      have hpl : (putV o.a[k].data).length ≤ 300 := by rw [putV_len]; show 20 + o.a[k].op.length ≤ 300; omega
      generalize putV o.a[k].data = nv at ownx HST hpl
      go_wp2_with (at_builtin; refine wpList_app rfl (.tmp 44) (.tmp 50) 22 rfl w1.heap.size 5 Try.underlying22 infoB rfl (by decide) vk lk.length (lk.map byt) rfl own Ax nv.length cx (nv.map byt) rfl (by simp only [List.length_map] <;> omega) (own_rd ownx) (byt_one _) (by omega) (by omega) zc ?_; intro v9 w9 own9 hg9 hat9)
      have bc9 := bc.grown hg9 zc (fun k hk => (own_lt own hk).1)
      go_roundw
      case rel => exact ⟨k + 1, v9, by omega, by go_num, rfl, by rw [← HST.out, List.length_append, List.map_append]; exact own9, bc9⟩
      case measure => simp [RowKit.intOf]; omega
    · obtain rfl : k = o.a.length := by omega
      rw [List.take_of_length_le (by simp)] at own
      obtain ⟨la, hla, za⟩ : ∃ L, Hid (L = l4 ++ (o.a.map En.data).flatMap putV) ∧ L.length ≤ 100000 := ⟨_, hid rfl, by
        have := valsB_le (o.a.map En.data) hR3 o.a.length
        rw [List.take_of_length_le (by simp)] at this
        rw [List.length_append]; omega⟩
      rw [← hla.out] at own
      obtain ⟨l5, hl5⟩ : ∃ L, Hid (L = la) := ⟨la, hid rfl⟩
      rw [← hl5.out] at own za
      obtain ⟨v5, hv5⟩ : ∃ v, v = vk := ⟨vk, rfl⟩
      rw [← hv5] at own ⊢
      clear hv5
      go_upto_region 13 with fail
      clear C4
      have C5 := ((R1.below bc).2 5 _ rfl).1
      go_wp2_with fail
      refine (rputnum_any o.g _).mono ?_
      rintro e wx ⟨vx, rfl, ownx, hbx⟩
      replace own := own_below own hbx
      replace bc := below_step bc hbx
      obtain ⟨Ax, cx, rfl, _⟩ := own_shape ownx
      have zc := bc.size
      go_upto_region 14 with (at_builtin; refine wpList_app rfl (.tmp 52) (.tmp 55) 22 rfl w1.heap.size 5 Try.underlying22 infoB rfl (by decide) v5 l5.length (l5.map byt) rfl own Ax (8) cx ((be 8 o.g).map byt) rfl (by simp only [List.length_map, be_length] <;> omega) (own_rd ownx) (byt_one _) (by omega) (by omega) zc ?_; intro v6 w6a own9 hg9 hat9)
      have bc9 := bc.grown hg9 zc (fun k hk => (own_lt own hk).1)
      obtain ⟨l6, hl6, z6⟩ : ∃ L, Hid (L = l5 ++ (be 8 o.g)) ∧ L.length ≤ 100100 := ⟨_, hid rfl, by simp only [List.length_append, be_length] <;> omega⟩
      replace own9 : w6a.ownsRow w1.heap.size 5 1 v6 l6.length (l6.map byt) := by
        have e : l6.length = l5.length + (8) := by rw [hl6.out]; simp only [List.length_append, be_length]
        rw [e, hl6.out, List.map_append]; exact own9
      clear own bc hg9 hat9 ownx hbx zc C5
      have own := own9
      have bc := bc9
      clear own9 bc9
      have C6 := ((R1.below bc).2 6 _ rfl).1
      go_wp2_with fail
      refine (rtext_n o.key.length rfl (h1.key.below bc) (by omega)).mono ?_
      rintro e wx ⟨vx, rfl, ownx, hbx⟩
      replace own := own_below own hbx
      replace bc := below_step bc hbx
      obtain ⟨Ax, cx, rfl, _⟩ := own_shape ownx
      have zc := bc.size
      go_wp2_with (at_builtin; refine wpList_app rfl (.tmp 57) (.tmp 60) 22 rfl w1.heap.size 5 Try.underlying22 infoB rfl (by decide) v6 l6.length (l6.map byt) rfl own Ax (4 + o.key.length) cx ((tx o.key).map byt) rfl (by simp only [List.length_map, tx_length] <;> omega) (own_rd ownx) (byt_one _) (by omega) (by omega) zc ?_; intro v7 w7a own9 hg9 hat9)
      have bc9 := bc.grown hg9 zc (fun k hk => (own_lt own hk).1)
      obtain ⟨l7, hl7, z7⟩ : ∃ L, Hid (L = l6 ++ (tx o.key)) ∧ L.length ≤ 200000 := ⟨_, hid rfl, by simp only [List.length_append, tx_length] <;> omega⟩
      replace own9 : w7a.ownsRow w1.heap.size 5 1 v7 l7.length (l7.map byt) := by
        have e : l7.length = l6.length + (4 + o.key.length) := by rw [hl7.out]; simp only [List.length_append, tx_length]
        rw [e, hl7.out, List.map_append]; exact own9
      clear own bc hg9 hat9 ownx hbx zc C6
      have own := own9
      have bc := bc9
      clear own9 bc9
      have e9 : l7 = putO o.data := by
        rw [hl7.out, hl6.out, hl5.out, hla.out, hl4.out, hl3.out, hl2.out, hl1.out, hl0.out]
        simp [putO, Oa.data]
      rw [e9] at own
      go_ret2
      exact ⟨_, by rw [bytesO_ok hR.out]; rfl, by rw [bytesO_ok hR.out]; exact own_mono own zw, b01.trans (bc.mono zw)⟩
set_option maxRecDepth 100000 in
set_option maxHeartbeats 1600000 in
theorem rrightreply_any (r : Ra) (w : World) : Calls Try.prog 45 #[r.val] w fun e w' => e = .returned (.bool (rightR r.data)) ∧ Below w.heap.size w w' := by
  have b0 := below_alloc w (.cells r.cells.toArray 34)
  have hv : rightR r.data = (plainN r.v.c r.v.r r.v.op.length && decide (r.t.length ≤ 65536)) := rfl
  have jl : decide ((r.t.length : Int) ≤ 65536) = decide (r.t.length ≤ 65536) := by by_cases h : r.t.length ≤ 65536 <;> simp [h] <;> omega
  rw [hv]
  clear hv
  have C8 := (Row.new w r.cells 34).2 8 (.slice r.tA r.t.length r.tc) rfl
  unfold Ra.val Ra.cells at *
  obtain ⟨pl, hpl⟩ : ∃ pl, pl = plainN r.v.c r.v.r r.v.op.length := ⟨_, rfl⟩
  have hP := fun (W : World) => rplain_any r.v.c r.v.r r.v.A r.v.op.length r.v.cap W
  rw [← hpl] at hP ⊢
  clear hpl
  cases pl
  · go_enter Try.func45, Try.ntmps45
    go_wp2_with fail
    refine (hP _).mono ?_
    rintro e w2 ⟨rfl, hb2⟩
    go_wp2_with fail
    go_ret
    exact ⟨rfl, below_step b0 hb2⟩
  · rw [← jl]
    go_enter Try.func45, Try.ntmps45
    go_wp2_with fail
    refine (hP _).mono ?_
    rintro e w2 ⟨rfl, hb2⟩
    have D8 := cell_on hb2 C8.1
    clear C8 jl
    go_wp2_with fail
    go_ret
    exact ⟨by simp, below_step b0 hb2⟩
set_option maxRecDepth 100000 in
set_option maxHeartbeats 12800000 in
theorem rputreply_any (r : Ra) {w : World} (h : RaRd w r) :
    Calls Try.prog 19 #[r.val] w fun e w' => ∃ v, e = .returned (.tuple #[v, .int .i64 (bytesRp r.data).2]) ∧ w'.ownsRow w.heap.size 5 1 v (bytesRp r.data).1.length ((bytesRp r.data).1.map byt) ∧ Below w.heap.size w w' := by
  have hrv : r.val = .agg #[.int .i64 r.er, .int .i64 r.pl, .int .i64 r.v.c, .int .i64 r.v.r, .slice r.v.A r.v.op.length r.v.cap, .int .i64 r.tr, .int .i64 r.us, .bool r.fd, .slice r.tA r.t.length r.tc] := rfl
  have hrt := fun (W : World) => rrightreply_any r W
  rw [hrv] at hrt ⊢
  clear hrv
  replace hrt := hid hrt
  have b0 := below_alloc w (.cells #[.int .i64 r.er, .int .i64 r.pl, .int .i64 r.v.c, .int .i64 r.v.r, .slice r.v.A r.v.op.length r.v.cap, .int .i64 r.tr, .int .i64 r.us, .bool r.fd, .slice r.tA r.t.length r.tc] 34)
  have R0 := Row.new w [.int .i64 r.er, .int .i64 r.pl, .int .i64 r.v.c, .int .i64 r.v.r, .slice r.v.A r.v.op.length r.v.cap, .int .i64 r.tr, .int .i64 r.us, .bool r.fd, .slice r.tA r.t.length r.tc] 34
  go_enter Try.func19, Try.ntmps19
  go_upto_region 1 with fail
  generalize w.alloc _ = w0 at b0 R0 ⊢
  have h0 := h.below b0
  have C0 := (R0.2 0 _ rfl).1
  have C1 := (R0.2 1 _ rfl).1
  have C2 := (R0.2 2 _ rfl).1
  have C3 := (R0.2 3 _ rfl).1
  have C4 := (R0.2 4 _ rfl).1
  have C5 := (R0.2 5 _ rfl).1
  have C6 := (R0.2 6 _ rfl).1
  have C7 := (R0.2 7 _ rfl).1
  have C8 := (R0.2 8 _ rfl).1
  go_wp2_with fail
  refine (hrt.out w0).mono ?_
  rintro e w1 ⟨rfl, hb1⟩
  clear hrt C0 C1 C2 C3 C4 C5 C6 C7 C8
  have b01 := below_step b0 hb1
  have R1 := R0.below hb1
  have h1 := h0.below hb1
  have zw : w.heap.size ≤ w1.heap.size := b01.size
  clear b0 hb1 R0 h0
  cases hR : rightR r.data
  case false =>
    replace hR := hid hR
    go_wp2_with fail
    go_ret2
    exact ⟨_, by rw [bytesRp_no hR.out]; rfl, by rw [bytesRp_no hR.out]; exact World.ownsRow_nil _ _ _ _, b01⟩
  replace hR := hid hR
  have hR1 : r.v.op.length ≤ 256 ∧ r.t.length ≤ 65536 := by
    have h2 := hR.out
    unfold rightR at h2
    rw [Bool.and_eq_true] at h2
    exact ⟨plain_le (v := r.v.data) h2.1, of_decide_eq_true h2.2⟩
  go_upto_region 4 with fail
  have K0 := fun W (hW : Below w1.heap.size w1 W) => cell_on hW (R1.2 0 _ rfl).1
  have K1 := fun W (hW : Below w1.heap.size w1 W) => cell_on hW (R1.2 1 _ rfl).1
  have bcur := (Below.refl w1.heap.size w1).drew
  refine wp_region_noPanic ?_
  refine wp_region_held_drew (S := (fun W => Below w1.heap.size w1 W)) (by kernel_rfl) ?_ (fun hHeld => ?_)
  · exact (Below.refl _ _).drew
  refine wpAnyH_take (i := 0) (oi := ?oi1) (v := ?v1) ?hi1 (by kernel_rfl) (by kernel_rfl) (by kernel_rfl) ?hQ1 ?hy1 (by assumption) ?hrest1
  case hi1 => (simp only [List.getElem?_toArray, List.getElem?_cons_zero]; try rfl)
  case hQ1 => exact fun _ _ _ h => h
  case hy1 =>
    refine Or.inl ⟨by rfl, ?_⟩
    (intro wq hSw; (try dsimp only at hSw); go_simp; try with_reducible rfl)
  (try simp only [Act.put, List.setIfInBounds_toArray, List.set_cons_zero, List.set_cons_succ])
  refine wpAnyH_take (i := 1) (oi := ?oi2) (v := ?v2) ?hi2 (by kernel_rfl) (by kernel_rfl) (by kernel_rfl) ?hQ2 ?hy2 (by assumption) ?hrest2
  case hi2 => (simp only [List.getElem?_toArray, List.getElem?_cons_succ, List.getElem?_cons_zero]; try rfl)
  case hQ2 => exact fun _ _ _ h => h
  case hy2 =>
    refine Or.inl ⟨by rfl, ?_⟩
    (intro wq hSw; (try dsimp only at hSw); go_simp; try with_reducible rfl)
  (try simp only [Act.put, List.setIfInBounds_toArray, List.set_cons_zero, List.set_cons_succ])
  refine wpAnyH_take (i := 3) (oi := ?oi3) (v := ?v3) ?hi3 (by kernel_rfl) (by kernel_rfl) (by kernel_rfl) ?hQ3 ?hy3 (by assumption) ?hrest3
  case hi3 => (simp only [List.getElem?_toArray, List.getElem?_cons_succ, List.getElem?_cons_zero]; try rfl)
  case hQ3 => exact fun _ _ _ h => h
  case hy3 =>
    refine Or.inl ⟨by rfl, ?_⟩
    (intro wq hSw; (try dsimp only at hSw); go_simp; try with_reducible rfl)
  (try simp only [Act.put, List.setIfInBounds_toArray, List.set_cons_zero, List.set_cons_succ])
  refine wpAnyH_take (i := 4) (oi := ?oi4) (v := ?v4) ?hi4 (by kernel_rfl) (by kernel_rfl) (by kernel_rfl) ?hQ4 ?hy4 (by assumption) ?hrest4
  case hi4 => (simp only [List.getElem?_toArray, List.getElem?_cons_succ, List.getElem?_cons_zero]; try rfl)
  case hQ4 => exact fun _ _ _ h => h
  case hy4 =>
    refine Or.inl ⟨by rfl, ?_⟩
    (intro wq hSw; (try dsimp only at hSw); go_simp; try with_reducible rfl)
  (try simp only [Act.put, List.setIfInBounds_toArray, List.set_cons_zero, List.set_cons_succ])
  refine wpAnyH_ready (rs := [2]) (by kernel_rfl) (by simp) ?_
  refine AllReadyH.cons (o := ?oi5) ?hi5 (fun K hK => ?hstep5) AllReadyH.nil
  case hi5 => (simp only [List.getElem?_toArray, List.getElem?_cons_succ, List.getElem?_cons_zero]; try rfl)
  go_simp
  (refine (rputnum_any r.er _).mono ?_; rintro e w2 ⟨v2, rfl, own2, hbx⟩; have bcur := below_step bcur hbx)
  refine hK.out _ _ ?_ (fun hHeld => ?_)
  · exact below_step hHeld hbx
  clear hK K
  (try simp only [Act.put, List.setIfInBounds_toArray, List.set_cons_zero, List.set_cons_succ])
  refine wpAnyH_ready (rs := [5]) (by kernel_rfl) (by simp) ?_
  refine AllReadyH.cons (o := ?oi6) ?hi6 (fun K hK => ?hstep6) AllReadyH.nil
  case hi6 => (simp only [List.getElem?_toArray, List.getElem?_cons_succ, List.getElem?_cons_zero]; try rfl)
  go_simp
  (refine (rputnum_any r.pl _).mono ?_; rintro e w5 ⟨v5, rfl, own5, hbx⟩; have own2b := own_below own2 hbx; have bcur := below_step bcur hbx; have z5 := bcur.size)
  refine hK.out _ _ ?_ (fun hHeld => ?_)
  · exact below_step hHeld hbx
  clear hK K
  (try simp only [Act.put, List.setIfInBounds_toArray, List.set_cons_zero, List.set_cons_succ])
  refine wpAnyH_ready (rs := [6]) (by kernel_rfl) (by simp) ?_
  refine AllReadyH.cons (o := ?oi7) ?hi7 (fun K hK => ?hstep7) AllReadyH.nil
  case hi7 => (simp only [List.getElem?_toArray, List.getElem?_cons_succ, List.getElem?_cons_zero]; try rfl)
  (obtain ⟨A5, c5, rfl, _⟩ := own_shape own5; refine oper_app2 rfl (.tmp 12) (.tmp 15) 22 rfl w1.drew.heap.size 5 Try.underlying22 infoB rfl (by decide) v2 8 ((be 8 r.er).map byt) rfl own2b A5 8 c5 ((be 8 r.pl).map byt) rfl (by rw [List.length_map, be_length]) (own_rd own5) (byt_one _) (by omega) (by omega) z5 ?_; intro v0 wx own hg6 hat6; have bc := bcur.grown hg6 z5 (fun k hk => (own_lt own2b hk).1))
  refine hK.out _ _ ?_ (fun hHeld => ?_)
  · exact bc
  clear hK K
  (try simp only [Act.put, List.setIfInBounds_toArray, List.set_cons_zero, List.set_cons_succ])
  refine wpAnyH_take (i := 7) (oi := ?oi8) (v := ?v8) ?hi8 (by kernel_rfl) (by kernel_rfl) (by kernel_rfl) ?hQ8 ?hy8 (by assumption) ?hrest8
  case hi8 => (simp only [List.getElem?_toArray, List.getElem?_cons_succ, List.getElem?_cons_zero]; try rfl)
  case hQ8 => exact fun _ _ _ h => h
  case hy8 =>
    refine Or.inl ⟨by rfl, ?_⟩
    (intro wq hSw; (try dsimp only at hSw); go_simp; try with_reducible rfl)
  (try simp only [Act.put, List.setIfInBounds_toArray, List.set_cons_zero, List.set_cons_succ])
  refine wpAnyH_done (by kernel_rfl) ?_ _
  refine NoPanic.normal ?_
  (clear own2 own2b own5 hg6 hat6 bcur; obtain ⟨l0, hl0, z0⟩ : ∃ L, Hid (L = be 8 r.er ++ be 8 r.pl) ∧ L.length = 16 := ⟨_, hid rfl, by rw [List.length_append, be_length, be_length]⟩; replace own : wx.ownsRow w1.heap.size 5 1 v0 l0.length (l0.map byt) := (by rw [z0, hl0.out, List.map_append]; exact own); replace z0 : l0.length ≤ 20 := (by omega))
  have C2 := ((R1.below bc).2 2 _ rfl).1
  have C3 := ((R1.below bc).2 3 _ rfl).1
  have C4 := ((R1.below bc).2 4 _ rfl).1
  have hpl : (putV r.v.data).length ≤ 300 := by rw [putV_len]; show 20 + r.v.op.length ≤ 300; omega
  obtain ⟨nv, hnv⟩ : ∃ nv, nv = putV r.v.data := ⟨_, rfl⟩
  rw [← hnv] at hpl
  go_wp2_with fail
  refine (refvalue_any r.v (h1.v.below bc) (by omega)).mono ?_
  rintro e wx ⟨vx, rfl, ownx, hbx⟩
  rw [← hnv] at ownx
  replace hnv := hid hnv
  replace own := own_below own hbx
  replace bc := below_step bc hbx
  obtain ⟨Ax, cx, rfl, _⟩ := own_shape ownx
  have zc := bc.size
  go_upto_region 6 with (at_builtin; refine wpList_app rfl (.tmp 17) (.tmp 21) 22 rfl w1.heap.size 5 Try.underlying22 infoB rfl (by decide) v0 l0.length (l0.map byt) rfl own Ax (nv.length) cx ((nv).map byt) rfl (by simp only [List.length_map] <;> omega) (own_rd ownx) (byt_one _) (by omega) (by omega) zc ?_; intro v1 w1a own9 hg9 hat9)
  have bc9 := bc.grown hg9 zc (fun k hk => (own_lt own hk).1)
  obtain ⟨l1, hl1, z1⟩ : ∃ L, Hid (L = l0 ++ (nv)) ∧ L.length ≤ 1000 := ⟨_, hid rfl, by simp only [List.length_append] <;> omega⟩
  replace own9 : w1a.ownsRow w1.heap.size 5 1 v1 l1.length (l1.map byt) := by
    have e : l1.length = l0.length + (nv.length) := by rw [hl1.out]; simp only [List.length_append]
    rw [e, hl1.out, List.map_append]; exact own9
  clear own bc hg9 hat9 ownx hbx zc C2 C3 C4
  have own := own9
  have bc := bc9
  clear own9 bc9
  have C5 := ((R1.below bc).2 5 _ rfl).1
  go_wp2_with fail
  refine (rputnum_any r.tr _).mono ?_
  rintro e wx ⟨vx, rfl, ownx, hbx⟩
  replace own := own_below own hbx
  replace bc := below_step bc hbx
  obtain ⟨Ax, cx, rfl, _⟩ := own_shape ownx
  have zc := bc.size
  go_upto_region 7 with (at_builtin; refine wpList_app rfl (.tmp 23) (.tmp 27) 22 rfl w1.heap.size 5 Try.underlying22 infoB rfl (by decide) v1 l1.length (l1.map byt) rfl own Ax (8) cx ((be 8 r.tr).map byt) rfl (by simp only [List.length_map, be_length] <;> omega) (own_rd ownx) (byt_one _) (by omega) (by omega) zc ?_; intro v2 w2a own9 hg9 hat9)
  have bc9 := bc.grown hg9 zc (fun k hk => (own_lt own hk).1)
  obtain ⟨l2, hl2, z2⟩ : ∃ L, Hid (L = l1 ++ (be 8 r.tr)) ∧ L.length ≤ 1100 := ⟨_, hid rfl, by simp only [List.length_append, be_length] <;> omega⟩
  replace own9 : w2a.ownsRow w1.heap.size 5 1 v2 l2.length (l2.map byt) := by
    have e : l2.length = l1.length + (8) := by rw [hl2.out]; simp only [List.length_append, be_length]
    rw [e, hl2.out, List.map_append]; exact own9
  clear own bc hg9 hat9 ownx hbx zc C5
  have own := own9
  have bc := bc9
  clear own9 bc9
  have C6 := ((R1.below bc).2 6 _ rfl).1
  go_wp2_with fail
  refine (rputnum_any r.us _).mono ?_
  rintro e wx ⟨vx, rfl, ownx, hbx⟩
  replace own := own_below own hbx
  replace bc := below_step bc hbx
  obtain ⟨Ax, cx, rfl, _⟩ := own_shape ownx
  have zc := bc.size
  go_upto_region 8 with (at_builtin; refine wpList_app rfl (.tmp 29) (.tmp 33) 22 rfl w1.heap.size 5 Try.underlying22 infoB rfl (by decide) v2 l2.length (l2.map byt) rfl own Ax (8) cx ((be 8 r.us).map byt) rfl (by simp only [List.length_map, be_length] <;> omega) (own_rd ownx) (byt_one _) (by omega) (by omega) zc ?_; intro v3 w3a own9 hg9 hat9)
  have bc9 := bc.grown hg9 zc (fun k hk => (own_lt own hk).1)
  obtain ⟨l3, hl3, z3⟩ : ∃ L, Hid (L = l2 ++ (be 8 r.us)) ∧ L.length ≤ 1200 := ⟨_, hid rfl, by simp only [List.length_append, be_length] <;> omega⟩
  replace own9 : w3a.ownsRow w1.heap.size 5 1 v3 l3.length (l3.map byt) := by
    have e : l3.length = l2.length + (8) := by rw [hl3.out]; simp only [List.length_append, be_length]
    rw [e, hl3.out, List.map_append]; exact own9
  clear own bc hg9 hat9 ownx hbx zc C6
  have own := own9
  have bc := bc9
  clear own9 bc9
  have C7 := ((R1.below bc).2 7 _ rfl).1
  go_wp2_with fail
  refine (rputbool_any r.fd _).mono ?_
  rintro e wx ⟨Ax, rfl, rdx, hbx⟩
  replace own := own_below own hbx
  replace bc := below_step bc hbx
  have zc := bc.size
  go_upto_region 9 with (at_builtin; refine wpList_app rfl (.tmp 35) (.tmp 38) 22 rfl w1.heap.size 5 Try.underlying22 infoB rfl (by decide) v3 l3.length (l3.map byt) rfl own Ax 1 1 ([tb r.fd].map byt) rfl rfl rdx (byt_one _) (by omega) (by omega) zc ?_; intro v4 w4a own9 hg9 hat9)
  have bc9 := bc.grown hg9 zc (fun k hk => (own_lt own hk).1)
  obtain ⟨l4, hl4, z4⟩ : ∃ L, Hid (L = l3 ++ [tb r.fd]) ∧ L.length ≤ 1300 := ⟨_, hid rfl, by rw [List.length_append]; simp; omega⟩
  replace own9 : w4a.ownsRow w1.heap.size 5 1 v4 l4.length (l4.map byt) := by
    have e : l4.length = l3.length + 1 := by rw [hl4.out, List.length_append]; rfl
    rw [e, hl4.out, List.map_append]; exact own9
  clear own bc hg9 hat9 rdx hbx zc C7
  have own := own9
  have bc := bc9
  clear own9 bc9
  have C8 := ((R1.below bc).2 8 _ rfl).1
  go_wp2_with fail
  refine (rtext_n r.t.length rfl (h1.t.below bc) (by omega)).mono ?_
  rintro e wx ⟨vx, rfl, ownx, hbx⟩
  replace own := own_below own hbx
  replace bc := below_step bc hbx
  obtain ⟨Ax, cx, rfl, _⟩ := own_shape ownx
  have zc := bc.size
  go_wp2_with (at_builtin; refine wpList_app rfl (.tmp 40) (.tmp 43) 22 rfl w1.heap.size 5 Try.underlying22 infoB rfl (by decide) v4 l4.length (l4.map byt) rfl own Ax (4 + r.t.length) cx ((tx r.t).map byt) rfl (by simp only [List.length_map, tx_length] <;> omega) (own_rd ownx) (byt_one _) (by omega) (by omega) zc ?_; intro v5 w5a own9 hg9 hat9)
  have bc9 := bc.grown hg9 zc (fun k hk => (own_lt own hk).1)
  obtain ⟨l5, hl5, z5⟩ : ∃ L, Hid (L = l4 ++ (tx r.t)) ∧ L.length ≤ 200000 := ⟨_, hid rfl, by simp only [List.length_append, tx_length] <;> omega⟩
  replace own9 : w5a.ownsRow w1.heap.size 5 1 v5 l5.length (l5.map byt) := by
    have e : l5.length = l4.length + (4 + r.t.length) := by rw [hl5.out]; simp only [List.length_append, tx_length]
    rw [e, hl5.out, List.map_append]; exact own9
  clear own bc hg9 hat9 ownx hbx zc C8
  have own := own9
  have bc := bc9
  clear own9 bc9
  have e9 : l5 = putR r.data := by
    rw [hl5.out, hl4.out, hl3.out, hl2.out, hl1.out, hnv.out, hl0.out]
    simp [putR, Ra.data]
  rw [e9] at own
  go_ret2
  exact ⟨_, by rw [bytesRp_ok hR.out]; rfl, by rw [bytesRp_ok hR.out]; exact own_mono own zw, b01.trans (bc.mono zw)⟩
end Go.Proofs.Ytoceipdkmafagaa
