import Derived.Test.YtgkdnhbhmebmeaaDoorPostL
/-! post: the live question; plain laws of what is sealed -/
namespace Go.Proofs.YtgkdnhbhmebmeaaDoor
open Go.RowKit Go.Cov
theorem drop_sealed (l : List UInt8) : (sealed l).drop 4 = l := rfl
theorem open_sealed (l : List UInt8) : openE (sealed l) = 0 ∧ openL (sealed l) = l := by
  have h4 : ¬ (sealed l).length < 4 := by rw [sealed_length]; omega
  have hd := drop_sealed l
  unfold openE openL
  rw [if_neg h4, if_neg h4, hd, if_pos rfl, if_pos rfl]
  exact ⟨rfl, rfl⟩
theorem open_nil : readS [] = (zeroM, 11) := by
  have h : openE [] = 11 := by unfold openE; rw [if_pos (by simp)]
  unfold readS
  rw [h, if_neg (by decide)]
theorem readS_back {m : MD} (h : rightM m = true) (hi : intM m) : readS (sealed (putM m)) = (m, 0) := by
  obtain ⟨h1, h2⟩ := open_sealed (putM m)
  unfold readS
  rw [h1, if_pos rfl, h2, msg_back h hi]
theorem bytesM_ok {m : MD} (h : rightM m = true) : bytesM m = (sealed (putM m), 0) := by unfold bytesM; rw [if_pos h]
theorem bytesM_no {m : MD} (h : rightM m = false) : bytesM m = ([], 151) := by unfold bytesM; rw [if_neg (by rw [h]; decide)]
theorem whole_no {α : Type} {right : α → Bool} {er : Int} {d : α} {get : List UInt8 → Int × Int → α × Int × Int} {l : List UInt8} (h : (whole right er d get l).2 ≠ 0) : (whole right er d get l).1 = d := by
  unfold whole at h ⊢
  split at h <;> rename_i hh
  · split at h <;> rename_i hh2
    · exact absurd rfl h
    · rw [if_pos hh, if_neg hh2]
  · rw [if_neg hh]
/-- what is read is right, or nothing -/
theorem readS_cases (l : List UInt8) : (rightM (readS l).1 = true ∧ (readS l).2 = 0 ∧ sealed (putM (readS l).1) = l) ∨ ((readS l).1 = zeroM ∧ (readS l).2 ≠ 0) := by
  unfold readS
  by_cases h : openE l = 0
  · rw [if_pos h]
    have ho : sealed (openL l) = l := by
      unfold openE at h
      unfold openL
      split at h
      · cases h
      · rename_i h4
        rw [if_neg h4]
        split at h
        · rename_i hs; rw [if_pos hs]; exact hs
        · cases h
    by_cases he : (readM (openL l)).2 = 0
    · have hk := msg_kept (m := (readM (openL l)).1) (l := openL l) (by rw [← he])
      exact .inl ⟨hk.1, he, by rw [hk.2, ho]⟩
    · refine .inr ⟨?_, he⟩
      exact whole_no he
  · rw [if_neg h]; exact .inr ⟨rfl, h⟩
theorem zeroM_right : rightM zeroM = false := by decide
def headMa : Ma := ⟨(4, 1, 0, 0, 7, 0, 0, 0, 0, 0), none, 0, [], false, 0, none, 0, [], none, 0, []⟩
theorem headMa_rd (w : World) : MaRd w headMa := ⟨Rd.nil _ _, Els.nil _ _ _, Rd.nil _ _, by decide, by decide, by decide⟩
theorem head_right : rightM headMa.data = true := by decide
theorem head_int : intM headMa.data := ⟨by unfold I64 headMa Ma.data; decide, by unfold I64 headMa Ma.data; decide, by unfold I64 headMa Ma.data; decide, fun x hx => by cases hx⟩
theorem head_len : (sealed (putM headMa.data)).length = 109 := by rw [sealed_length, putM_len]; rfl
set_option maxRecDepth 100000 in
set_option maxHeartbeats 6400000 in
theorem head_any (w : World) (ht : Tab w) : Calls Tryd.prog 9 #[] w fun e w' => e = .returned (.bool true) ∧ Below w.heap.size w w' := by
  have K1 := putmsg_any headMa (headMa_rd w) ht
  rw [bytesM_ok head_right] at K1
  dsimp only at K1
  have hl := head_len
  have hb := readS_back head_right head_int
  have hv : headMa.val = .agg #[.int .i64 4, .int .i64 1, .int .i64 0, .int .i64 0, .int .i64 7, .int .i64 0, .int .i64 0, .int .i64 0, .int .i64 0, .int .i64 0, .slice none 0 0, .bool false, .int .i64 0, .slice none 0 0, .slice none 0 0] := rfl
  rw [hv] at K1
  have hd1 : headMa.data.1.2.1 = 1 := rfl
  have hd4 : headMa.data.1.2.2.2.2.1 = 7 := rfl
  generalize sealed (putM headMa.data) = l at K1 hl hb
  generalize headMa.data = md at hd1 hd4 hb
  rw [hl] at K1
  replace hl := hid hl
  replace hb := hid hb
  replace hd1 := hid hd1
  replace hd4 := hid hd4
  clear hv
  go_enter Tryd.func9, Tryd.ntmps9
  go_wp2_with fail
  refine K1.mono ?_
  rintro e w2 ⟨v, rfl, own2, hb2⟩
  clear K1
  obtain ⟨A2, c2, rfl, hc2, hm2, _⟩ := own_shape own2
  have t2 := ht.below hb2
  have K2 := getmsg_any (c := c2) (own_rd own2) (by have := hl.out; omega) (by have := hl.out; omega) t2
  rw [hb.out, hl.out] at K2
  clear own2 hc2 hm2
  go_wp2_with fail
  refine K2.mono ?_
  rintro e w3 ⟨o, rfl, hod, _, hb3⟩
  clear K2
  have b3 := below_step hb2 hb3
  have t3 := t2.below hb3
  have ho1 : o.n.2.1 = 1 := by have := congrArg (fun m : MD => m.1.2.1) hod; exact this.trans hd1.out
  have ho4 : o.n.2.2.2.2.1 = 7 := by have := congrArg (fun m : MD => m.1.2.2.2.2.1) hod; exact this.trans hd4.out
  clear hod
  obtain ⟨⟨n0, n1, n2, n3, n4, n5, n6, n7, n8, n9⟩, bA, bc, b, has, st, eA, ec, es, kA, kc, chk⟩ := o
  dsimp only at ho1 ho4
  subst ho1 ho4
  unfold Ma.val
  dsimp only
  have R4 := Row.new w3 [.int .i64 n0, .int .i64 1, .int .i64 n2, .int .i64 n3, .int .i64 7, .int .i64 n5, .int .i64 n6, .int .i64 n7, .int .i64 n8, .int .i64 n9, .slice bA b.length bc, .bool has, .int .i64 st, .slice eA es.length ec, .slice kA chk.length kc] 28
  have b5 := below_alloc w3 (.cells #[.int .i64 n0, .int .i64 1, .int .i64 n2, .int .i64 n3, .int .i64 7, .int .i64 n5, .int .i64 n6, .int .i64 n7, .int .i64 n8, .int .i64 n9, .slice bA b.length bc, .bool has, .int .i64 st, .slice eA es.length ec, .slice kA chk.length kc] 28)
  replace R4 := hid R4
  replace b5 := hid b5
  go_upto_region 3 with fail
  replace R4 := R4.out
  replace b5 := b5.out
  change Row (w3.alloc (.cells #[.int .i64 n0, .int .i64 1, .int .i64 n2, .int .i64 n3, .int .i64 7, .int .i64 n5, .int .i64 n6, .int .i64 n7, .int .i64 n8, .int .i64 n9, .slice bA b.length bc, .bool has, .int .i64 st, .slice eA es.length ec, .slice kA chk.length kc] 28)) _ _ at R4
  generalize w3.alloc (.cells #[.int .i64 n0, .int .i64 1, .int .i64 n2, .int .i64 n3, .int .i64 7, .int .i64 n5, .int .i64 n6, .int .i64 n7, .int .i64 n8, .int .i64 n9, .slice bA b.length bc, .bool has, .int .i64 st, .slice eA es.length ec, .slice kA chk.length kc] 28) = w5 at R4 b5 ⊢
  have K3 := getmsg_any (l := []) (A := none) (c := 0) (Rd.nil w5 none) (Nat.le_refl _) (by simp) (t3.below b5)
  rw [open_nil] at K3
  go_wp2_with fail
  refine K3.mono ?_
  rintro e w6 ⟨o, rfl, _, _, hb6⟩
  clear K3
  have R6 := R4.below hb6
  have C1 := (R6.2 1 _ rfl).1
  have C4 := (R6.2 4 _ rfl).1
  have b6 := below_step b3 (below_step b5 hb6)
  clear R4 R6
  obtain ⟨⟨m0, m1, m2, m3, m4, m5, m6, m7, m8, m9⟩, bA', bc', b', has', st', eA', ec', es', kA', kc', chk'⟩ := o
  unfold Ma.val
  dsimp only
  have b7 := below_alloc w6 (.cells #[.int .i64 m0, .int .i64 m1, .int .i64 m2, .int .i64 m3, .int .i64 m4, .int .i64 m5, .int .i64 m6, .int .i64 m7, .int .i64 m8, .int .i64 m9, .slice bA' b'.length bc', .bool has', .int .i64 st', .slice eA' es'.length ec', .slice kA' chk'.length kc'] 28)
  replace b7 := hid b7
  go_upto_region 4 with fail
  replace b7 := b7.out
  generalize w6.alloc (.cells #[.int .i64 m0, .int .i64 m1, .int .i64 m2, .int .i64 m3, .int .i64 m4, .int .i64 m5, .int .i64 m6, .int .i64 m7, .int .i64 m8, .int .i64 m9, .slice bA' b'.length bc', .bool has', .int .i64 st', .slice eA' es'.length ec', .slice kA' chk'.length kc'] 28) = w7 at b7 ⊢
  have D1 := cell_on b7 C1
  have D4 := cell_on b7 C4
  clear C1 C4
  go_wp2_with fail
  go_ret
  exact ⟨rfl, below_step b6 b7⟩
end Go.Proofs.YtgkdnhbhmebmeaaDoor
