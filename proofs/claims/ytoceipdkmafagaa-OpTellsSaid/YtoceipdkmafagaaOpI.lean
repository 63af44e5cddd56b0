import Derived.Test.YtoceipdkmafagaaOpH
import Derived.Test.YtoceipdkmafagaaOpC
import Derived.Test.YtoceipdkmafagaaPlain1
/-! op: an operation's bytes -/
namespace Go.Proofs.Ytoceipdkmafagaa
open Go.RowKit Go.Cov
theorem conv_str (w : World) (l : List UInt8) : (convert 9 22 (.string (str l))).run Try.prog w = .ok (.slice (some ⟨w.heap.size, 0, none⟩) l.length (sbCap 5 w l)) (sbW 5 w l) := conv_sb Try.underlying9 Try.underlying22 Try.underlying5 w l
theorem Wt.new (w : World) (t : TypeId) : Wt 5 (w.alloc (.cells #[.slice none 0 0] t)) w.heap.size (.slice none 0 0) [] :=
  ⟨by simp, box_cell w #[.slice none 0 0] t 0 _ rfl, World.frozen?_alloc_new (w := w) _ t 0, World.ownsRow_nil _ _ _ _⟩
/-- a row of three texts, made here -/
theorem row3_box {w : World} {wb : Nat} {v : Value} {l : List UInt8} (hW : Wt 5 w wb v l) {B1 B2 B3 : Option Addr} {n1 n2 n3 c1 c2 c3 : Nat} {s1 s2 s3 : List UInt8} (hn1 : s1.length = n1) (hn2 : s2.length = n2) (hn3 : s3.length = n3) (t : TypeId)
    (hc1 : n1 ≤ c1 ∧ c1 ≤ maxLen) (hc2 : n2 ≤ c2 ∧ c2 ≤ maxLen) (hc3 : n3 ≤ c3 ∧ c3 ≤ maxLen) (hr1 : ∀ v' W, Tw wb v w v' W → Rd W B1 (s1.map byt)) (hr2 : ∀ v' W, Tw wb v w v' W → Rd W B2 (s2.map byt)) (hr3 : ∀ v' W, Tw wb v w v' W → Rd W B3 (s3.map byt)) :
    ∀ v' W, Tw wb v (w.alloc (.cells #[.slice B1 n1 c1, .slice B2 n2 c2, .slice B3 n3 c3] t)) v' W → RowRd W (some ⟨w.heap.size, 0, none⟩) [s1, s2, s3] := by
  intro v' W hT
  subst hn1 hn2 hn3
  have hb := below_alloc w (.cells #[.slice B1 s1.length c1, .slice B2 s2.length c2, .slice B3 s3.length c3] t)
  have g1 := hr1 v' W ((Tw.of_below hb).trans hT)
  have g2 := hr2 v' W ((Tw.of_below hb).trans hT)
  have g3 := hr3 v' W ((Tw.of_below hb).trans hT)
  have h1 : Rd (w.alloc (.cells #[.slice B1 s1.length c1, .slice B2 s2.length c2, .slice B3 s3.length c3] t)) (some ⟨w.heap.size, 0, none⟩) [.slice B1 s1.length c1, .slice B2 s2.length c2, .slice B3 s3.length c3] := rd_box w #[.slice B1 s1.length c1, .slice B2 s2.length c2, .slice B3 s3.length c3] t
  have hA : ApaW wb v (some ⟨w.heap.size, 0, none⟩) := ApaW.new hW (fun ad ha => by cases ha; exact Nat.le_refl _)
  refine ⟨[.slice B1 s1.length c1, .slice B2 s2.length c2, .slice B3 s3.length c3], h1.tw hA hT, rfl, fun i l hl => ?_⟩
  match i, hl with
  | 0, hl => cases hl; exact ⟨_, rfl, B1, c1, rfl, hc1.1, hc1.2, g1⟩
  | 1, hl => cases hl; exact ⟨_, rfl, B2, c2, rfl, hc2.1, hc2.2, g2⟩
  | 2, hl => cases hl; exact ⟨_, rfl, B3, c3, rfl, hc3.1, hc3.2, g3⟩
theorem valsB_le (xs : List VD) (h : ∀ x ∈ xs, x.2.2.length ≤ 256) (k : Nat) : ((xs.take k).flatMap putV).length ≤ 276 * k := by
  induction k generalizing xs with
  | zero => simp
  | succ k ih =>
    cases xs with
    | nil => simp
    | cons x xs =>
      rw [List.take_succ_cons, List.flatMap_cons, List.length_append, putV_len]
      have := h x (List.mem_cons_self ..)
      have := ih xs (fun y hy => h y (List.mem_cons_of_mem _ hy))
      omega
theorem valsB_step (xs : List VD) (k : Nat) (hk : k < xs.length) : (xs.take (k + 1)).flatMap putV = (xs.take k).flatMap putV ++ putV xs[k] := by
  rw [List.take_succ_eq_append_getElem hk, List.flatMap_append]; simp [List.flatMap_cons]
theorem en_cap {w : World} {A : Option Addr} {xs : List En} (h : Els enEl w A xs) (i : Nat) (hi : i < xs.length) : xs[i].op.length ≤ xs[i].cap ∧ xs[i].cap ≤ maxLen := by
  obtain ⟨ad, hA, hc, hp⟩ := h.at' i hi
  obtain ⟨A', c, he, h1, h2, hr⟩ := hp (xs[i].val, xs[i].op) (by simp [enEl])
  unfold En.val at he
  injection he with e1 e2 e3
  rw [e3]; exact ⟨h1, h2⟩
set_option maxRecDepth 100000 in
set_option maxHeartbeats 12800000 in
theorem put_any (o : Oa) {w : World} (h : OaRd w o) (hsc : o.s.length ≤ o.sc ∧ o.sc ≤ maxLen) (hkc : o.key.length ≤ o.kc ∧ o.kc ≤ maxLen) :
    Calls Try.prog 11 #[o.val] w fun e w' => ∃ v, e = .returned (.tuple #[v, .int .i64 (bytesO o.data).2]) ∧ w'.ownsRow w.heap.size 5 1 v (bytesO o.data).1.length ((bytesO o.data).1.map byt) ∧ Below w.heap.size w w' := by
  have b0 := below_alloc w (.cells o.cells.toArray 25)
  have R0 := Row.new w o.cells 25
  have h1 := h.below b0
  have hrt := fun {W : World} (hW : OaRd W o) => right_any o hW
  have CV := conv_str
  cases hR : rightO o.data
  case false =>
    have e : bytesO o.data = ([], 151) := by unfold bytesO; rw [hR, if_neg (by decide)]
    rw [e]
    clear e
    rw [hR] at hrt
    clear CV hR
    unfold Oa.val Oa.cells at *
    go_enter Try.func11, Try.ntmps11
    go_wp2_with fail
    refine (hrt h1).mono ?_
    rintro e w2 ⟨rfl, hb2⟩
    go_wp2_with fail
    go_ret2
    exact ⟨_, rfl, World.ownsRow_nil _ _ _ _, below_step b0 hb2⟩
  have e : bytesO o.data = (putO o.data, 0) := by unfold bytesO; rw [hR, if_pos rfl]
  rw [e]
  clear e
  rw [hR] at hrt
  rw [rightO_of, Bool.and_eq_true] at hR
  obtain ⟨hR1, hR2⟩ := hR
  have hR1 := of_decide_eq_true hR1
  have hR3 : ∀ x ∈ o.a.map En.data, x.2.2.length ≤ 256 := fun x hx => by
    have := List.all_eq_true.1 hR2 x hx
    unfold argOk at this
    rw [Bool.and_eq_true] at this
    exact plain_le this.2
  clear hR2
  unfold Oa.val Oa.cells at *
  go_enter Try.func11, Try.ntmps11
  go_upto_region 1 with fail
  generalize hw1 : w.alloc _ = w1 at b0 R0 h1 ⊢
  have n1 : w1.heap.size = w.heap.size + 1 := by rw [← hw1]; simp
  clear hw1
  have C0 := (R0.2 0 _ rfl).1
  have C1 := (R0.2 1 _ rfl).1
  have C2 := (R0.2 2 _ rfl).1
  have C3 := (R0.2 3 _ rfl).1
  have C4 := (R0.2 4 _ rfl).1
  have C5 := (R0.2 5 _ rfl).1
  have C6 := (R0.2 6 _ rfl).1
  go_wp2_with fail
  refine (hrt h1).mono ?_
  rintro e w2 ⟨rfl, hb2⟩
  replace b0 := below_step b0 hb2
  have h2 := h1.below hb2
  have R2 := R0.below hb2
  clear hrt h1 C0 C1 C2 C3 C4 C5 C6 R0
  have hz2 := R2.1
  -- what the copy's cells say, in any later world
  have D : ∀ {W}, Below w2.heap.size w2 W → Row W w.heap.size [.int .i64 o.k, .string (str o.n), .slice o.sA o.s.length o.sc, .string (str o.f), .slice o.aA o.a.length o.ac, .int .i64 o.g, .slice o.kA o.key.length o.kc] := fun hb => R2.below hb
  have b3 := below_alloc w2 (.cells #[.slice none 0 0] 54)
  have W3 := Wt.new w2 54
  go_upto_region 4 with fail
  generalize hw3 : w2.alloc _ = w3 at b3 W3 ⊢
  have n3 : w3.heap.size = w2.heap.size + 1 := by rw [← hw3]; simp
  clear hw3
  have C0 := ((D b3).2 0 _ rfl).1
  -- number of the kind
  have r4 := ns_box w3 [o.k] 2
  have b4 := below_alloc w3 (.cells #[.int .i64 o.k] 2)
  have W4 := W3.on b4
  have a4 : ApaW w2.heap.size (.slice none 0 0) (some ⟨w3.heap.size, 0, none⟩) := ApaW.new W3 (fun ad ha => by cases ha; exact Nat.le_refl _)
  rw [n3] at r4 a4
  go_wp2_with fail
  refine (nums_n W4 1 rfl r4 a4 (by simp)).mono ?_
  rintro e w5 ⟨_, v5, rfl, W5, T5⟩
  have b5 := below_step b3 b4
  replace b5 := b5.trans (T5.below W4 (Nat.le_refl _))
  clear W3 W4 r4 a4 b4 b3 T5
  obtain ⟨l5, e5, z5⟩ : ∃ l5, l5 = nsB [o.k] ∧ l5.length ≤ 8 := ⟨_, rfl, by rw [nsB_len]; simp⟩
  rw [List.nil_append, ← e5] at W5
  -- three texts
  have C1 := ((D b5).2 1 _ rfl).1
  have b6 := sbW_below 5 w5 o.n
  have g6 := sbW_rd 5 w5 o.n
  have c6 : o.n.length ≤ sbCap 5 w5 o.n ∧ sbCap 5 w5 o.n ≤ maxLen := ⟨sbCap_ge .., sbCap_le _ _ _ (by unfold maxLen; omega)⟩
  have CV1 := CV w5 o.n
  generalize sbW 5 w5 o.n = w6 at b6 g6 CV1
  generalize sbCap 5 w5 o.n = k6 at c6 CV1
  have b56 := below_step b5 b6
  have C2 := ((D b56).2 2 _ rfl).1
  have C3 := ((D b56).2 3 _ rfl).1
  have b7 := sbW_below 5 w6 o.f
  have g7 := sbW_rd 5 w6 o.f
  have c7 : o.f.length ≤ sbCap 5 w6 o.f ∧ sbCap 5 w6 o.f ≤ maxLen := ⟨sbCap_ge .., sbCap_le _ _ _ (by unfold maxLen; omega)⟩
  have CV2 := CV w6 o.f
  clear CV
  generalize sbW 5 w6 o.f = w7 at b7 g7 CV2
  generalize sbCap 5 w6 o.f = k7 at c7 CV2
  have W7 := (W5.on b6).on b7
  have b57 := below_step b56 b7
  have a6 : ApaW w2.heap.size v5 (some ⟨w5.heap.size, 0, none⟩) := ApaW.new W5 (fun ad ha => by cases ha; exact Nat.le_refl _)
  have a7 : ApaW w2.heap.size v5 (some ⟨w6.heap.size, 0, none⟩) := ApaW.new (W5.on b6) (fun ad ha => by cases ha; exact Nat.le_refl _)
  have r8 := row3_box W7 (B1 := some ⟨w5.heap.size, 0, none⟩) (B2 := o.sA) (B3 := some ⟨w6.heap.size, 0, none⟩) (s1 := o.n) (s2 := o.s) (s3 := o.f) rfl rfl rfl 22 c6 hsc c7
    (fun v' W hT => (g6.below b7).tw a6 hT) (fun v' W hT => h2.s.below (b57.trans (hT.below W7 (Nat.le_refl _)))) (fun v' W hT => g7.tw a7 hT)
  have b8 := below_alloc w7 (.cells #[.slice (some ⟨w5.heap.size, 0, none⟩) o.n.length k6, .slice o.sA o.s.length o.sc, .slice (some ⟨w6.heap.size, 0, none⟩) o.f.length k7] 22)
  have W8 := W7.on b8
  replace b57 := below_step b57 b8
  clear g6 g7 a6 a7
  go_wp2_with fail
  refine (texts_n W8 3 rfl r8 (by intro s hs; rcases List.mem_cons.1 hs with rfl | hs; omega; rcases List.mem_cons.1 hs with rfl | hs; omega; rw [List.mem_singleton.1 hs]; omega) (by omega) (by omega)).mono ?_
  rintro e w9 ⟨_, v9, rfl, W9, T9⟩
  have b9 := b57.trans (T9.below W8 (Nat.le_refl _))
  clear r8 b8 W8 W7 b7 b57 T9 CV1 CV2 b6 b56 b5 W5 C1 C2 C3
  obtain ⟨l9, e9, z9⟩ : ∃ l9, l9 = l5 ++ txB [o.n, o.s, o.f] ∧ l9.length ≤ 20000 := ⟨_, rfl, by simp only [txB, List.flatMap_cons, List.flatMap_nil, List.append_nil, List.length_append, tx_length]; omega⟩
  rw [← e9] at W9
  -- how many arguments
  have C4 := ((D b9).2 4 _ rfl).1
  have r10 := ns_box w9 [(o.a.length : Int)] 2
  have b10 := below_alloc w9 (.cells #[.int .i64 o.a.length] 2)
  have W10 := W9.on b10
  have a10 : ApaW w2.heap.size v9 (some ⟨w9.heap.size, 0, none⟩) := ApaW.new W9 (fun ad ha => by cases ha; exact Nat.le_refl _)
  go_wp2_with fail
  refine (nums_n W10 1 rfl r10 a10 (by omega)).mono ?_
  rintro e w11 ⟨_, v11, rfl, W11, T11⟩
  have b11 := (below_step b9 b10).trans (T11.below W10 (Nat.le_refl _))
  clear r10 a10 b10 W10 T11 W9 b9 C4
  obtain ⟨l11, e11, z11⟩ : ∃ l11, l11 = l9 ++ nsB [(o.a.length : Int)] ∧ l11.length ≤ 30000 := ⟨_, rfl, by rw [List.length_append, nsB_len]; simp; omega⟩
  rw [← e11] at W11
  have C4 := ((D b11).2 4 _ rfl).1
  go_wp2_with fail
  go_loopw [37] (fun i W => ∃ (k : Nat) (vk : Value), k ≤ o.a.length ∧ i = .int .i64 k ∧ Wt 5 W w2.heap.size vk (l11 ++ ((o.a.map En.data).take k).flatMap putV) ∧ Below w2.heap.size w2 W) (fun i _ => o.a.length - (RowKit.intOf i).toNat)
  case atStart => exact ⟨0, v11, by omega, rfl, by simpa using W11, b11⟩
  case round =>
    obtain ⟨k, vk, hk, rfl, Wk, bk⟩ := hrel
    by_cases hlt : k < o.a.length
    · have i1 : (k : Int) < o.a.length := by omega
      have hE := h2.a.below bk
      obtain ⟨ad, hAd, x0, x1, x2, rx⟩ := en_at hE k hlt
      have hcp := en_cap hE k hlt
      have rxx := fun {W : World} (hb : Below w2.heap.size w2 W) => (en_at (h2.a.below hb) k hlt)
      replace hAd := hid hAd
      have h256 : o.a[k].op.length ≤ 256 := hR3 o.a[k].data (List.mem_map_of_mem (List.getElem_mem hlt))
      have HST : Hid ((l11 ++ ((o.a.map En.data).take k).flatMap putV) ++ putV o.a[k].data = l11 ++ ((o.a.map En.data).take (k + 1)).flatMap putV) := by
        rw [valsB_step (o.a.map En.data) k (by simpa using hlt), List.append_assoc, List.getElem_map]; exact hid rfl
      have hlk : (l11 ++ ((o.a.map En.data).take k).flatMap putV).length ≤ 100000 := by
        have := valsB_le (o.a.map En.data) hR3 k
        rw [List.length_append]; omega
      generalize l11 ++ ((o.a.map En.data).take k).flatMap putV = lk at Wk HST hlk
      rw [hAd.out] at *
      have bA := below_alloc wr (.cells #[.int .i64 o.a[k].c, .int .i64 o.a[k].r, .slice o.a[k].A o.a[k].op.length o.a[k].cap] 29)
      have V := Var3.new wr (.int .i64 o.a[k].c) (.int .i64 o.a[k].r) (.slice o.a[k].A o.a[k].op.length o.a[k].cap) 29
      have WA := Wk.on bA
      go_upto_region 10 with fail
      generalize wr.alloc _ = wA at bA V WA ⊢
      obtain ⟨X0, X1, X2, _, _, _, _⟩ := V
      replace bk := below_step bk bA
      go_wp2_with fail
      refine (value_any WA o.a[k] (fun v' W hT => by obtain ⟨_, _, _, _, _, r⟩ := rxx (bk.trans (hT.below WA (Nat.le_refl _))); exact r) (by omega) hcp (by omega)).mono ?_
      rintro e w12 ⟨_, v12, rfl, W12, T12⟩
      rw [HST.out] at W12
      have b12 := bk.trans (T12.below WA (Nat.le_refl _))
      clear X0 X1 X2 x0 x1 x2
      go_wp2_with fail
      go_roundw
      case rel => exact ⟨k + 1, _, by omega, by go_num, W12, b12⟩
      case measure => simp [RowKit.intOf]; omega
    · obtain rfl : k = o.a.length := by omega
      have hlk : (l11 ++ ((o.a.map En.data).take o.a.length).flatMap putV).length ≤ 100000 := by
        have := valsB_le (o.a.map En.data) hR3 o.a.length
        rw [List.length_append]; omega
      rw [List.take_of_length_le (by simp)] at Wk hlk
      obtain ⟨lk, e14⟩ : ∃ lk, lk = l11 ++ (o.a.map En.data).flatMap putV := ⟨_, rfl⟩
      rw [← e14] at Wk hlk
      replace e14 := hid e14
      -- gas
      have C5 := ((D bk).2 5 _ rfl).1
      have r14 := ns_box wr [o.g] 2
      have b14 := below_alloc wr (.cells #[.int .i64 o.g] 2)
      have W14 := Wk.on b14
      have a14 : ApaW w2.heap.size vk (some ⟨wr.heap.size, 0, none⟩) := ApaW.new Wk (fun ad ha => by cases ha; exact Nat.le_refl _)
      go_wp2_with fail
      refine (nums_n W14 1 rfl r14 a14 (by omega)).mono ?_
      rintro e w15 ⟨_, v15, rfl, W15, T15⟩
      have b15 := (below_step bk b14).trans (T15.below W14 (Nat.le_refl _))
      clear r14 a14 b14 W14 T15 Wk bk C5 C4 b11 W11
      obtain ⟨l15, e15, z15⟩ : ∃ l15, l15 = lk ++ nsB [o.g] ∧ l15.length ≤ 200000 := ⟨_, rfl, by rw [List.length_append, nsB_len]; simp; omega⟩
      rw [← e15] at W15
      replace e15 := hid e15
      -- key
      have C6 := ((D b15).2 6 _ rfl).1
      have r16 := row1_box W15 (B := o.kA) (s := o.key) rfl 22 hkc (fun v' W hT => h2.key.below (b15.trans (hT.below W15 (Nat.le_refl _))))
      have b16 := below_alloc w15 (.cells #[.slice o.kA o.key.length o.kc] 22)
      have W16 := W15.on b16
      replace b16 := below_step b15 b16
      go_wp2_with fail
      refine (texts_n W16 1 rfl r16 (by intro s hs; rw [List.mem_singleton.1 hs]; omega) (by omega) (by omega)).mono ?_
      rintro e w17 ⟨_, v17, rfl, W17, T17⟩
      have b17 := b16.trans (T17.below W16 (Nat.le_refl _))
      clear r16 W16 T17 b15 b16 W15 C6
      have e17 : l15 ++ txB [o.key] = putO o.data := by
        rw [e15.out, e14.out, e11, e9, e5]
        simp [putO, nsB, txB, Oa.data]
      rw [e17] at W17
      have C17 := W17.cell
      have hO := W17.own
      go_wp2_with fail
      go_ret2
      exact ⟨_, rfl, own_mono hO (by omega), (b0.trans (b17.mono b0.size))⟩
end Go.Proofs.Ytoceipdkmafagaa
