import Derived.Test.YtoceipdkmafagaaOpO
namespace Go.Proofs.Ytoceipdkmafagaa
open Go.RowKit Go.Cov
def lookOa : Oa := ⟨3, [], none, 0, [], [], none, 0, [], 0, none, 0, []⟩
theorem get_n {A : Option Addr} {c : Nat} {l : List UInt8} {w : World} (n : Nat) (hn : l.length = n) (h : Rd w A (l.map byt)) (hc : n ≤ c) (hl : n ≤ 140737488351236) :
    Calls Try.prog 15 #[.slice A n c] w fun e w' => ∃ o : Oa, e = .returned (.tuple #[o.val, .int .i64 (readO l).2]) ∧ o.data = (readO l).1 ∧ OaOwn w' o ∧ Below w.heap.size w w' := by
  subst hn; exact get_any h hc hl
theorem getreply_n {A : Option Addr} {c : Nat} {l : List UInt8} {w : World} (n : Nat) (hn : l.length = n) (h : Rd w A (l.map byt)) (hc : n ≤ c) (hl : n ≤ 140737488351236) :
    Calls Try.prog 20 #[.slice A n c] w fun e w' => ∃ r : Ra, e = .returned (.tuple #[r.val, .int .i64 (readR l).2]) ∧ r.data = (readR l).1 ∧ RaRd w' r ∧ Below w.heap.size w w' := by
  subst hn; exact getreply_any h hc hl
set_option maxRecDepth 100000 in
set_option maxHeartbeats 3200000 in
theorem head_any (w : World) : Calls Try.prog 9 #[] w fun e w' => e = .returned (.bool true) ∧ Below w.heap.size w w' := by
  go_enter Try.func9, Try.ntmps9
  go_wp2_with fail
  have K1 := fun W => put_any lookOa (w := W) ⟨Rd.nil _ _, Els.nil _ _ _, Rd.nil _ _, by decide⟩ (by decide) (by decide)
  have hd : lookOa.data = lookO := rfl
  have e1 := bytesO_ok look_right
  rw [hd, e1] at K1
  dsimp only at K1
  clear e1 hd
  obtain ⟨L, hL⟩ : ∃ L, L = putO lookO := ⟨_, rfl⟩
  have j40 : Hid (L.length = 40) := by rw [hL]; exact hid look_len
  have rb : Hid (readO L = (lookO, 0)) := by rw [hL]; exact hid (op_back look_right look_int)
  have rm : Hid (readO (L ++ [0]) = (zeroO, 151)) := by rw [hL]; exact hid (op_more look_right look_int 0)
  rw [← hL] at K1
  clear hL
  refine (K1 w).mono ?_
  clear K1
  rintro e w2 ⟨v2, rfl, own2, hb2⟩
  obtain ⟨A2, c2, rfl, hc2, _⟩ := own_shape own2
  go_wp2_with fail
  refine (get_any (own_rd own2) hc2 (by have := j40.out; omega)).mono ?_
  rintro e w3 ⟨o3, rfl, d3, ho3, hb3⟩
  rw [rb.out] at d3 ⊢
  have k3 : Hid (o3.k = 3) := hid (congrArg (·.1) d3)
  clear d3 rb
  have own3 := own_below own2 hb3
  have b4 := below_alloc w3 (.cells o3.cells.toArray 25)
  have C0 := box_cell w3 o3.cells.toArray 25 0 (.int .i64 o3.k) rfl
  unfold Oa.val
  unfold Oa.cells at b4 C0
  go_upto_region 3 with fail
  generalize hw4 : w3.alloc _ = w4 at b4 C0 ⊢
  clear hw4
  have own4 := own_below own3 b4
  have b34 := below_step (below_step hb2 hb3) b4
  have hA2 := fun k hk => (own_lt own2 (k := k) hk).2
  have z23 := hb3.size
  clear own2 own3 ho3 hb2 hb3
  have r5 := rd_box w4 #[.int .u8 0] 5
  have b5 := below_alloc w4 (.cells #[.int .u8 0] 5)
  have own5 := own_below own4 b5
  have C5 := cell_on b5 C0
  have z4 := b34.size
  go_wp2_with (at_builtin; refine wpList_app rfl (.tmp 20) (.tmp 21) 22 rfl w.heap.size 5 Try.underlying22 infoB rfl (by decide) (.slice A2 L.length c2) L.length (L.map byt) rfl own5 (some ⟨w4.heap.size, 0, none⟩) 1 1 [.int .u8 0] rfl rfl r5 (by intro u hu; simp at hu; subst hu; rfl) (by have := j40.out; omega) (by have := j40.out; omega) (by have := b5.size; omega) ?_; intro v6 w6 own6 hg6 hat6; obtain ⟨A6, c6, rfl, hc6, _⟩ := own_shape own6)
  have C6 := hg6.cell C5 (fun e => absurd (hA2 _ e.symm) (by show ¬ (w3.heap.size < w2.heap.size); omega))
  have b46 := (b34.trans (b5.mono b34.size)).grown hg6 (by have := b5.size; omega) (fun k hk => (own_lt own5 hk).1)
  have r6 : Rd w6 A6 ((L ++ [0]).map byt) := by have := own_rd own6; rw [List.map_append]; exact this
  clear C0 C5 own4 own5 own6 hg6 hat6 r5 b5 b34
  refine (get_n (l := L ++ [0]) (L.length + 1) (by simp) r6 hc6 (by have := j40.out; omega)).mono ?_
  rintro e w7 ⟨o7, rfl, d7, ho7, hb7⟩
  rw [rm.out]
  clear d7 ho7 rm r6
  have b7 := below_step b46 hb7
  have C7 := cell_on hb7 C6
  have b8 := below_alloc w7 (.cells o7.cells.toArray 25)
  have C8 := cell_on b8 C7
  have b78 := below_step b7 b8
  unfold Oa.val
  unfold Oa.cells at b8 C8 b78
  go_upto_region 4 with fail
  generalize w7.alloc _ = w8 at b8 C8 b78 ⊢
  clear b8 b7 C6 C7 b46 hb7
  go_wp2_with fail
  have K2 := fun W => putreply_any zeroRa (w := W) (zeroRa_rd W)
  have hdr : zeroRa.data = zeroR := rfl
  have e1 := bytesRp_ok zeroR_right
  rw [hdr, e1] at K2
  dsimp only at K2
  obtain ⟨M, hM⟩ : ∃ M, M = putR zeroR := ⟨_, rfl⟩
  have j57 : Hid (M.length = 57) := by rw [hM]; exact hid zeroR_len
  rw [← hM] at K2
  clear hM hdr e1
  refine (K2 _).mono ?_
  rintro e w9 ⟨v9, rfl, own9, hb9⟩
  obtain ⟨A9, c9, rfl, _⟩ := own_shape own9
  have C9 := cell_on hb9 C8
  have q1 : ((L.length : Int) == 40) = true := by rw [j40.out]; rfl
  have q2 : ((M.length : Int) == 57) = true := by rw [j57.out]; rfl
  have q3 : (o3.k == 3) = true := by rw [k3.out]; rfl
  go_wp2_with fail
  go_ret
  exact ⟨rfl, below_step b78 hb9⟩
end Go.Proofs.Ytoceipdkmafagaa
