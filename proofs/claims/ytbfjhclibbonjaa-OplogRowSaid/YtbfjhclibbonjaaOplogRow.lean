/-
  The walk of the law OplogRow.
-/
import Derived.Test.YtbfjhclibbonjaaLogH
namespace Go.Proofs.Ytbfjhclibbonjaa
open Go.RowKit Go.Cov
/-- so many entries in a row -/
def rowE (m : Nat) : EL := (List.range m).map fun (j : Nat) => ((1 : Int), ((j : Nat) : Int), ([] : List UInt8))
theorem rowE_len (m : Nat) : (rowE m).length = m := by simp [rowE]
theorem rowE_succ (m : Nat) : rowE (m + 1) = rowE m ++ [(1, (m : Int), [])] := by simp [rowE, List.range_succ]
theorem rowE_at {m i : Nat} (h : i < m) : (rowE m)[i]? = some (1, (i : Int), []) := by simp [rowE, h]
theorem rowE_bad (m : Nat) : badE (rowE m) = false := by
  unfold badE
  rw [List.any_eq_false]
  intro x hx
  obtain ⟨j, _, rfl⟩ := List.mem_map.1 hx
  simp
theorem rowE_right {s m : Nat} (hs : s < 65536) (hm : m ≤ 64) : rightL s (rowE m) = true := rightL_iff.2 ⟨by omega, by rw [rowE_len]; omega, by rw [rowE_len]; omega, rowE_bad m⟩
theorem rowE_app {s m : Nat} (hs : s < 65536) (hm : m < 64) : appR s (rowE m) (1, (m : Int), []) = ((s : Int), rowE (m + 1), 0) := by
  unfold appR
  rw [if_pos (rowE_right hs (by omega)), if_neg (by rw [rowE_len]; simp; omega), rowE_succ]
theorem rowE_full {s : Nat} (hs : s < 65536) (x : Int) : appR s (rowE 64) (1, x, []) = (0, [], 2) := by
  unfold appR
  rw [if_pos (rowE_right hs (by omega)), if_pos (.inl (rowE_len 64))]
theorem rowE_atL {s m i : Nat} (hs : s < 65536) (hm : m ≤ 64) (hi : i ≤ m) : atL s (rowE m) ((s : Int) + i) = some i := by
  unfold atL
  rw [if_pos ⟨rowE_right hs hm, by omega, by rw [rowE_len]; omega⟩]
  congr 1
  omega
theorem rowE_atE {s m i : Nat} (hs : s < 65536) (hm : m ≤ 64) (hi : i < m) : atE s (rowE m) ((s : Int) + i + 1) = some (1, (i : Int), []) := by
  have h := rowE_atL (s := s) (m := m) (i := i + 1) hs hm (by omega)
  rw [show (s : Int) + ((i + 1 : Nat) : Int) = (s : Int) + i + 1 by omega] at h
  rw [atE_some h, rowE_at hi]
theorem rowE_at0 {s m : Nat} (hs : s < 65536) (hm : m ≤ 64) : atE s (rowE m) (s : Int) = none := by
  have h := rowE_atL (s := s) (m := m) (i := 0) hs hm (by omega)
  rw [show (s : Int) + ((0 : Nat) : Int) = (s : Int) by omega] at h
  exact atE_zero h
theorem rowE_find {s m i : Nat} (hs : s < 65536) (hm : m ≤ 64) (hi : i < m) : findL s (rowE m) 1 (i : Int) = (s : Int) + i + 1 := by
  unfold findL
  rw [if_pos (rowE_right hs hm)]
  have : lastIx (hits 1 (i : Int)) (rowE m) = some i := by
    unfold lastIx
    have e : (rowE m).reverse.findIdx? (hits 1 (i : Int)) = some (m - 1 - i) := by
      rw [List.findIdx?_eq_some_iff_getElem]
      have hl : (rowE m).reverse.length = m := by rw [List.length_reverse, rowE_len]
      have hat : ∀ j, (hj : j < m) → (rowE m).reverse[j] = ((1, ((m - 1 - j : Nat) : Int), []) : ED) := fun j hj => by
        rw [List.getElem_reverse]
        simp [rowE]
      refine ⟨by omega, by rw [hat _ (by omega)]; simp [hits]; omega, fun j hj => ?_⟩
      rw [hat _ (by omega)]
      simp [hits]
      omega
    rw [e, Option.map_some, rowE_len]
    congr 1
    omega
  rw [this]
theorem rowE_cut {s m i : Nat} (hs : s < 65536) (hm : m ≤ 64) (hi : i ≤ m) : cutR s (rowE m) ((s : Int) + i) = ((s : Int) + i, (rowE m).drop i, 0) := by
  rw [cutR, rowE_atL hs hm hi]
theorem rowE_cutno {s m i : Nat} (hi : ¬ i ≤ m) : cutR s (rowE m) ((s : Int) + i) = (0, [], 1) := by
  have : atL s (rowE m) ((s : Int) + i) = none := by
    unfold atL
    rw [if_neg (fun h => by have := h.2.2; rw [rowE_len] at this; omega)]
  rw [cutR, this]
theorem rowE_end {s m : Nat} (hs : s < 65536) (hm : m ≤ 64) : endL s (rowE m) = (s : Int) + m := by
  rw [endL, if_pos (rowE_right hs hm), rowE_len]
set_option maxRecDepth 100000 in
set_option maxHeartbeats 6400000 in
theorem row_law (s n cut : Nat) (hs : s < 65536) (hn : n < 256) (hc : cut < 256) (w : World) :
    Calls Try.prog 3 #[.int .u16 s, .int .u8 n, .int .u8 cut] w fun e w' => e = .returned (.bool true) ∧ Below w.heap.size w w' := by
  have c1 : IntKind.i64.wrap (s : Int) = s := wrap_of _ (by omega) (by omega)
  have c2 : IntKind.i64.wrap (cut : Int) = cut := wrap_of _ (by omega) (by omega)
  have c3 : IntKind.i64.wrap (s : Int) = s := wrap_of _ (by omega) (by omega)
  go_enter Try.func3, Try.ntmps3
  go_wp2_with fail
  refine (head_any w).mono ?_
  rintro e w1 ⟨rfl, hb1⟩
  obtain ⟨k, hk, hk70⟩ : ∃ k : Nat, (n : Int) % 70 = (k : Int) ∧ k < 70 := ⟨n % 70, by omega, by omega⟩
  go_wp2_with fail
  clear hk
  obtain ⟨bl, hbl⟩ : ∃ bl, bl = w1.heap.size := ⟨_, rfl⟩
  have V := Var2.new w1 (.int .i64 s) (.slice none 0 0) 26
  have b2 := below_step hb1 (below_alloc w1 (.cells #[.int .i64 s, .slice none 0 0] 26))
  have hl2 := lg_nil (w1.alloc (.cells #[.int .i64 s, .slice none 0 0] 26))
  have hws := hb1.size
  rw [← hbl] at V hws ⊢
  clear hbl
  go_loopw [10] (fun i W => ∃ (j : Nat) (C : Option Addr) (q : Nat) (ys : List En), j ≤ k ∧ i = .int .i64 j ∧ Var2 W bl (.int .i64 s) (.slice C ys.length q) ∧ Lg W C q ys (rowE (min j 64)) ∧ Below w.heap.size w W) (fun i _ => k - (intOf i).toNat)
  case atStart => exact ⟨0, none, 0, [], Nat.zero_le _, rfl, V, hl2, b2⟩
  case round =>
    obtain ⟨j, C, q, ys, hj, rfl, hV, hL, hb⟩ := hrel
    obtain ⟨v0, v1, f0, f1, hz⟩ := id hV
    by_cases hlt : j < k
    · have i1 : (j : Int) < k := by omega
      have KA := append_any (s := s) hL ⟨1, j, none, 0, []⟩ (sl_nil wr)
      rw [show En.data ⟨1, j, none, 0, []⟩ = (1, (j : Int), []) from rfl] at KA
      by_cases h64 : j < 64
      · have i2 : (j : Int) < 64 := by omega
        rw [show min j 64 = j by omega, rowE_app hs h64] at KA
        have K1 := hid KA
        have HV := hid hV
        clear KA hV hL
        go_wp2_with fail
        refine K1.out.mono ?_
        rintro e w2 ⟨D, d, zs, rfl, hl2, hD, hb2⟩
        have hV2 := HV.out.on hb2
        obtain ⟨v0, v1, f0, f1, hz⟩ := id hV2
        have bz := below_step hb hb2
        have hbl : bl < wr.heap.size := HV.out.2.2.2.2
        have hne : ∀ ad, D = some ad → ad.block ≠ bl := fun ad hA => by have := hD ad hA; omega
        have hL3 := (hl2.set hV2 hne (.int .i64 s) (.slice D zs.length d)).below (below_alloc _ (.cells #[.int .i64 s, .slice D zs.length d] 26))
        have hV3 := (var2_set hV2 (.int .i64 s) (.slice D zs.length d)).on (below_alloc _ (.cells #[.int .i64 s, .slice D zs.length d] 26))
        have hB3 := ((bz.setCell (p := ⟨bl, 0, none⟩) hws (.int .i64 s)).setCell (p := ⟨bl, 1, none⟩) hws (.slice D zs.length d)).alloc (by have := bz.size; simp; omega) (.cells #[.int .i64 s, .slice D zs.length d] 26)
        go_wp2_with fail
        go_roundw
        case rel => exact ⟨j + 1, D, d, zs, by omega, by go_num, hV3, by rw [show min (j + 1) 64 = j + 1 by omega]; exact hL3, hB3⟩
        case measure => simp [intOf]; omega
      · have i2 : ¬ (j : Int) < 64 := by omega
        rw [show min j 64 = 64 by omega, rowE_full hs] at KA
        rw [show min j 64 = 64 by omega] at hL
        have K1 := hid KA
        have HV := hid hV
        have HL := hid hL
        clear KA hV hL
        go_wp2_with fail
        refine K1.out.mono ?_
        rintro e w2 ⟨D, d, zs, rfl, _, _, hb2⟩
        have bw := below_step hb2 (below_alloc w2 (.cells #[.int .i64 0, .slice D zs.length d] 26))
        go_wp2_with fail
        go_roundw
        case rel => exact ⟨j + 1, C, q, ys, by omega, by go_num, HV.out.on bw, by rw [show min (j + 1) 64 = 64 by omega]; exact HL.out.below bw, below_step hb bw⟩
        case measure => simp [intOf]; omega
    · obtain rfl : j = k := by omega
      rcases Nat.lt_or_ge 64 j with h64 | h64
      · have i2 : (64 : Int) < j := by omega
        have i3 : ¬ (j : Int) ≤ 64 := by omega
        have hm64 : 64 ≤ 64 := by omega
        rw [show min j 64 = 64 by omega] at hL
        have KE := end_any (s := s) hL
        rw [rowE_end hs hm64, show (((64 : Nat)) : Int) = 64 from rfl] at KE
        have K1 := hid KE
        have e1 : IntKind.i64.wrap ((s : Int) + 64) = (s : Int) + 64 := wrap_of _ (by omega) (by omega)
        have HV := hid hV
        have HL := hid hL
        clear KE hV hL
        go_wp2_with fail
        refine K1.out.mono ?_
        rintro e w2 ⟨rfl, hb2⟩
        have b2 := below_step hb hb2
        have HV2 := hid (HV.out.on hb2)
        have HL2 := hid (HL.out.below hb2)
        clear HV HL v0 v1 f0 f1 hz
        go_wp2_with fail
        go_loopw [13] (fun i W => ∃ (x : Nat), x ≤ 64 ∧ i = .int .i64 x ∧ Below w2.heap.size w2 W) (fun i _ => 64 - (intOf i).toNat)
        case atStart => exact ⟨0, Nat.zero_le _, rfl, Below.refl _ _⟩
        case round =>
          obtain ⟨x, hx, rfl, hbr⟩ := hrel
          obtain ⟨v0, v1, _⟩ := HV2.out.on hbr
          have hLr := HL2.out.below hbr
          by_cases hlt : x < 64
          · have i4 : (x : Int) < 64 := by omega
            have ka := att_any (s := s) hLr ((s : Int) + x + 1)
            rw [rowE_atE hs hm64 hlt] at ka
            have KA := hid ka
            have kf := fun W (hW : Below wr.heap.size wr W) => find_any (s := s) (hLr.below hW) 1 (x : Int)
            rw [rowE_find hs hm64 hlt] at kf
            have KF := hid kf
            have a1 : IntKind.i64.wrap ((s : Int) + x) = (s : Int) + x := wrap_of _ (by omega) (by omega)
            have a2 : IntKind.i64.wrap ((s : Int) + x + 1) = (s : Int) + x + 1 := wrap_of _ (by omega) (by omega)
            have HV3 := hid (HV2.out.on hbr)
            clear ka kf hLr
            go_wp2_with fail
            refine KA.out.mono ?_
            rintro e w4 ⟨y, rfl, hy, _, hb4⟩
            have hy2 : y.r = (x : Int) := congrArg (fun d : ED => d.2.1) hy
            clear hy
            unfold En.agg
            rw [hy2]
            have b5 := below_step hb4 (below_alloc w4 (.cells #[.int .i64 y.c, .int .i64 (x : Int), .slice y.A y.op.length y.cap] 32))
            obtain ⟨x0, x1, x2, _⟩ := Var3.new w4 (.int .i64 y.c) (.int .i64 (x : Int)) (.slice y.A y.op.length y.cap) 32
            obtain ⟨v0, v1, _⟩ := HV3.out.on b5
            clear hy2
            go_wp2_with fail
            refine (KF.out _ b5).mono ?_
            rintro e w6 ⟨rfl, hb6⟩
            go_wp2_with fail
            go_roundw
            case rel => exact ⟨x + 1, by omega, by go_num, hbr.trans ((below_step b5 hb6).mono hbr.size)⟩
            case measure => simp [intOf]; omega
          · have hxm : 64 = x := by omega
            subst hxm
            have b6 := below_step b2 hbr
            have ka := att_any (s := s) hLr (s : Int)
            rw [rowE_at0 hs hm64] at ka
            have KA := hid ka
            have HV3 := hid (HV2.out.on hbr)
            have HL3 := hid hLr
            clear ka hLr
            go_wp2_with fail
            refine KA.out.mono ?_
            rintro e w7 ⟨y, rfl, _, _, hb7⟩
            unfold En.agg
            have b8 := below_step hb7 (below_alloc w7 (.cells #[.int .i64 y.c, .int .i64 y.r, .slice y.A y.op.length y.cap] 32))
            obtain ⟨v0, v1, _⟩ := HV3.out.on b8
            have a1 : IntKind.i64.wrap ((s : Int) + cut) = (s : Int) + cut := wrap_of _ (by omega) (by omega)
            have kc := cut_any (s := s) (HL3.out.below b8) ((s : Int) + cut)
            by_cases hcm : cut ≤ 64
            · rw [rowE_cut hs hm64 hcm] at kc
              have KC := hid kc
              have hdl : ((rowE 64).drop cut).length = 64 - cut := by rw [List.length_drop, rowE_len]
              have i5 : (cut : Int) ≤ 64 := by omega
              have a2 : IntKind.i64.wrap ((64 : Int) - cut) = (((64 - cut : Nat)) : Int) := (wrap_of _ (by omega) (by omega)).trans (by omega)
              generalize hK9 : 64 - cut = K9 at a2 hdl
              clear kc hK9
              go_wp2_with fail
              refine KC.out.mono ?_
              rintro e w9 ⟨D, d, us, rfl, hLu, hb9⟩
              have hul : us.length = K9 := hLu.len.trans hdl
              rw [hul]
              clear hul hdl
              go_wp2_with fail
              go_ret
              exact ⟨rfl, below_step b6 (below_step (below_step b8 hb9) (below_alloc _ _))⟩
            · rw [rowE_cutno hcm] at kc
              have KC := hid kc
              have i6 : ¬ (cut : Int) ≤ 64 := by omega
              have i5 := decide_eq_false i6
              clear kc
              go_wp2_with fail
              refine KC.out.mono ?_
              rintro e w9 ⟨D, d, us, rfl, hLu, hb9⟩
              go_wp2_with fail
              go_ret
              exact ⟨rfl, below_step b6 (below_step (below_step b8 hb9) (below_alloc _ _))⟩
      · have i2 : (j : Int) ≤ 64 := by omega
        have i3 : ¬ (64 : Int) < j := by omega
        have hm64 : j ≤ 64 := by omega
        rw [show min j 64 = j by omega] at hL
        have KE := end_any (s := s) hL
        rw [rowE_end hs hm64, show (((j : Nat)) : Int) = (j : Int) from rfl] at KE
        have K1 := hid KE
        have e1 : IntKind.i64.wrap ((s : Int) + (j : Int)) = (s : Int) + (j : Int) := wrap_of _ (by omega) (by omega)
        have HV := hid hV
        have HL := hid hL
        clear KE hV hL
        go_wp2_with fail
        refine K1.out.mono ?_
        rintro e w2 ⟨rfl, hb2⟩
        have b2 := below_step hb hb2
        have HV2 := hid (HV.out.on hb2)
        have HL2 := hid (HL.out.below hb2)
        clear HV HL v0 v1 f0 f1 hz
        go_wp2_with fail
        go_loopw [13] (fun i W => ∃ (x : Nat), x ≤ j ∧ i = .int .i64 x ∧ Below w2.heap.size w2 W) (fun i _ => j - (intOf i).toNat)
        case atStart => exact ⟨0, Nat.zero_le _, rfl, Below.refl _ _⟩
        case round =>
          obtain ⟨x, hx, rfl, hbr⟩ := hrel
          obtain ⟨v0, v1, _⟩ := HV2.out.on hbr
          have hLr := HL2.out.below hbr
          by_cases hlt : x < j
          · have i4 : (x : Int) < (j : Int) := by omega
            have ka := att_any (s := s) hLr ((s : Int) + x + 1)
            rw [rowE_atE hs hm64 hlt] at ka
            have KA := hid ka
            have kf := fun W (hW : Below wr.heap.size wr W) => find_any (s := s) (hLr.below hW) 1 (x : Int)
            rw [rowE_find hs hm64 hlt] at kf
            have KF := hid kf
            have a1 : IntKind.i64.wrap ((s : Int) + x) = (s : Int) + x := wrap_of _ (by omega) (by omega)
            have a2 : IntKind.i64.wrap ((s : Int) + x + 1) = (s : Int) + x + 1 := wrap_of _ (by omega) (by omega)
            have HV3 := hid (HV2.out.on hbr)
            clear ka kf hLr
            go_wp2_with fail
            refine KA.out.mono ?_
            rintro e w4 ⟨y, rfl, hy, _, hb4⟩
            have hy2 : y.r = (x : Int) := congrArg (fun d : ED => d.2.1) hy
            clear hy
            unfold En.agg
            rw [hy2]
            have b5 := below_step hb4 (below_alloc w4 (.cells #[.int .i64 y.c, .int .i64 (x : Int), .slice y.A y.op.length y.cap] 32))
            obtain ⟨x0, x1, x2, _⟩ := Var3.new w4 (.int .i64 y.c) (.int .i64 (x : Int)) (.slice y.A y.op.length y.cap) 32
            obtain ⟨v0, v1, _⟩ := HV3.out.on b5
            clear hy2
            go_wp2_with fail
            refine (KF.out _ b5).mono ?_
            rintro e w6 ⟨rfl, hb6⟩
            go_wp2_with fail
            go_roundw
            case rel => exact ⟨x + 1, by omega, by go_num, hbr.trans ((below_step b5 hb6).mono hbr.size)⟩
            case measure => simp [intOf]; omega
          · have hxm : j = x := by omega
            subst hxm
            have b6 := below_step b2 hbr
            have ka := att_any (s := s) hLr (s : Int)
            rw [rowE_at0 hs hm64] at ka
            have KA := hid ka
            have HV3 := hid (HV2.out.on hbr)
            have HL3 := hid hLr
            clear ka hLr
            go_wp2_with fail
            refine KA.out.mono ?_
            rintro e w7 ⟨y, rfl, _, _, hb7⟩
            unfold En.agg
            have b8 := below_step hb7 (below_alloc w7 (.cells #[.int .i64 y.c, .int .i64 y.r, .slice y.A y.op.length y.cap] 32))
            obtain ⟨v0, v1, _⟩ := HV3.out.on b8
            have a1 : IntKind.i64.wrap ((s : Int) + cut) = (s : Int) + cut := wrap_of _ (by omega) (by omega)
            have kc := cut_any (s := s) (HL3.out.below b8) ((s : Int) + cut)
            by_cases hcm : cut ≤ j
            · rw [rowE_cut hs hm64 hcm] at kc
              have KC := hid kc
              have hdl : ((rowE j).drop cut).length = j - cut := by rw [List.length_drop, rowE_len]
              have i5 : (cut : Int) ≤ (j : Int) := by omega
              have a2 : IntKind.i64.wrap (((j : Int) : Int) - cut) = (((j - cut : Nat)) : Int) := (wrap_of _ (by omega) (by omega)).trans (by omega)
              generalize hK9 : j - cut = K9 at a2 hdl
              clear kc hK9
              go_wp2_with fail
              refine KC.out.mono ?_
              rintro e w9 ⟨D, d, us, rfl, hLu, hb9⟩
              have hul : us.length = K9 := hLu.len.trans hdl
              rw [hul]
              clear hul hdl
              go_wp2_with fail
              go_ret
              exact ⟨rfl, below_step b6 (below_step (below_step b8 hb9) (below_alloc _ _))⟩
            · rw [rowE_cutno hcm] at kc
              have KC := hid kc
              have i6 : ¬ (cut : Int) ≤ (j : Int) := by omega
              have i5 := decide_eq_false i6
              clear kc
              go_wp2_with fail
              refine KC.out.mono ?_
              rintro e w9 ⟨D, d, us, rfl, hLu, hb9⟩
              go_wp2_with fail
              go_ret
              exact ⟨rfl, below_step b6 (below_step (below_step b8 hb9) (below_alloc _ _))⟩
theorem row_law' (a0 a1 a2 : Int) (w : World) (h0 : 0 ≤ a0 ∧ a0 < 65536) (h1 : 0 ≤ a1 ∧ a1 < 256) (h2 : 0 ≤ a2 ∧ a2 < 256) :
    Calls Try.prog 3 #[.int .u16 a0, .int .u8 a1, .int .u8 a2] w fun e w' => e = .returned (.bool true) ∧ Below w.heap.size w w' := by
  obtain ⟨s, rfl⟩ := Int.eq_ofNat_of_zero_le h0.1
  obtain ⟨n, rfl⟩ := Int.eq_ofNat_of_zero_le h1.1
  obtain ⟨c, rfl⟩ := Int.eq_ofNat_of_zero_le h2.1
  exact row_law s n c (by omega) (by omega) (by omega) w
end Go.Proofs.Ytbfjhclibbonjaa
