import Derived.Test.YtengfmcfklakbaaDoorSealStir
import Derived.Test.YtengfmcfklakbaaDoorOpen
namespace Go.Proofs.YtengfmcfklakbaaDoor
open Go.RowKit Go.Cov
theorem u32_of_wf {n : Int} (h : (Lit.int .u32 n).wf = true) : ∃ b : BitVec 32, n = b.toNat := by
  have hb : 0 ≤ n ∧ n ≤ 4294967295 := by simpa [Lit.wf, IntKind.min, IntKind.max, IntKind.signed, IntKind.bits] using h
  refine ⟨BitVec.ofNat 32 n.toNat, ?_⟩
  rw [BitVec.toNat_ofNat]
  omega
set_option maxRecDepth 100000 in
set_option maxHeartbeats 3200000 in
theorem spoilt_law {A : Option Addr} {c : Nat} {l : List UInt8} {w : World} {n1 n2 n3 : Int} (h : Rd w A (l.map byt)) (hl : l.length ≤ 140737488351232) (hw1 : (Lit.int .u16 n1).wf = true) (hw2 : (Lit.int .u32 n2).wf = true) (hw3 : (Lit.int .u32 n3).wf = true) (ht : Tab w) :
    Calls Tryd.prog 5 #[.slice A l.length c, .int .u16 n1, .int .u32 n2, .int .u32 n3] w fun e w' => e = .returned (.bool true) ∧ Below w.heap.size w w' := by
  have hn1 : 0 ≤ n1 ∧ n1 ≤ 65535 := by simpa [Lit.wf, IntKind.min, IntKind.max, IntKind.signed, IntKind.bits] using hw1
  obtain ⟨bm, rfl⟩ := u32_of_wf hw2
  obtain ⟨sm, rfl⟩ := u32_of_wf hw3
  clear hw1 hw2 hw3
  have eL : IntKind.i64.wrap ((l.length : Int) + 4) = ((4 + l.length : Nat) : Int) := by simp [IntKind.wrap, IntKind.signed, IntKind.bits]; omega
  by_cases hcnd : 4 ≤ l.length ∧ bm ≠ 0#32
  · obtain ⟨h4, hbm⟩ := hcnd
    have hb1 : ((bm.toNat : Int) == 0) = false := by
      rw [beq_eq_false_iff_ne]; intro h; apply hbm; apply BitVec.eq_of_toNat_eq; simp; omega
    have hb2n : ((bm.toNat : Int) != 0) = true := by simp only [bne, hb1, Bool.not_false]
    have HBM := hid hbm
    clear hbm
    obtain ⟨t, T, hT', htl, et⟩ : ∃ t T : Nat, Hid (T = 4 + t) ∧ (4 ≤ T ∧ T ≤ l.length) ∧ Hid (wrap64 (4 + n1 % (↑l.length - 3)) = (T : Int)) := by
      have h0 : 0 ≤ n1 % ((l.length : Int) - 3) := Int.emod_nonneg _ (by omega)
      have h1 : n1 % ((l.length : Int) - 3) < (l.length : Int) - 3 := Int.emod_lt_of_pos _ (by omega)
      refine ⟨(n1 % ((l.length : Int) - 3)).toNat, 4 + (n1 % ((l.length : Int) - 3)).toNat, hid rfl, by omega, hid ?_⟩
      simp only [wrap64]
      omega
    go_enter Tryd.func5, Tryd.ntmps5
    go_wp2_with fail
    refine (head_any ht).mono ?_
    rintro e w1 ⟨rfl, hb1'⟩
    go_wp2_with fail
    refine (seal_any (h.below hb1') hl (ht.below hb1')).mono ?_
    rintro e w2 ⟨v2, rfl, hown2, hb2'⟩
    have hb2 := hb1'.trans (hb2'.mono hb1'.size)
    obtain ⟨A2, c2, rfl, hc2, _⟩ := own_shape hown2
    obtain ⟨g, rfl⟩ : ∃ g, A2 = some ⟨g, 0, none⟩ := by
      rcases hown2.2 with ⟨hv, hn⟩ | ⟨g, cap, cur, hv, _⟩
      · omega
      · injection hv with hv; exact ⟨g, hv⟩
    have hgz := (own_lt hown2 (k := g) rfl)
    go_wp2_with fail
    rw [et.out]
    go_loopw [12] (fun i W => ∃ (k : Nat) (xs : List UInt8), k ≤ 4 ∧ i = .int .i64 k ∧ xs.length = 4 + l.length ∧ xs = stir (sealed l) (T) bm k ∧ W.ownsRow w1.heap.size 5 1 (.slice (some ⟨g, 0, none⟩) (4 + l.length) c2) (4 + l.length) (xs.map byt) ∧ w2.grownBy W (some g)) (fun i _ => 4 - (intOf i).toNat)
    case atStart => exact ⟨0, sealed l, by omega, rfl, sealed_length l, rfl, hown2, World.grownBy.refl _ _⟩
    case round =>
      obtain ⟨k, xs, hk, rfl, hxl, hxs, hown', hg⟩ := hrel
      rcases (show k = 0 ∨ k = 1 ∨ k = 2 ∨ k = 3 ∨ k = 4 by omega) with rfl | rfl | rfl | rfl | rfl
      · -- step 0
        obtain ⟨P, hP, hPl, ew⟩ : ∃ P : Nat, Hid (P = T + 0) ∧ P < 4 + l.length ∧ Hid (IntKind.i64.wrap (((T : Nat) : Int)) = (P : Int)) := ⟨T + 0, hid rfl, by omega, hid (by simp [IntKind.wrap, IntKind.signed, IntKind.bits]; omega)⟩
        have hx : (xs.map byt)[P]? = some (byt (xs.getD (P) 0)) := by
          rw [List.getElem?_map, List.getElem?_eq_getElem (by omega), List.getD_eq_getElem?_getD, List.getElem?_eq_getElem (by omega)]; rfl
        have hck : wr.cell? ⟨g, P, none⟩ = some (.int .u8 (xs.getD (P) 0).toNat) := by
          rw [hown'.cellAt (P) (by omega), hx]; rfl
        generalize hX : xs.getD (P) 0 = X at hck
        have hX' := hid hX
        clear hX hx
        obtain ⟨Y, hY, ey⟩ : ∃ Y, Hid (Y = Crc.byteOf bm 0) ∧ (bm.toNat : Int)  % 256 = (Y.toNat : Int) := ⟨_, hid rfl, by rw [byteOf_int]; simp only [Nat.mul_zero, Int.pow_zero, Int.ediv_one]⟩
        obtain ⟨Z, hZ, ez⟩ : ∃ Z, Hid (Z = X ^^^ Y) ∧ bits .xor .u8 (X.toNat : Int) (Y.toNat : Int) = (Z.toNat : Int) := ⟨_, hid rfl, xor_u8 X Y⟩
        go_wp2_with fail
        have hownd := own_below hown' ((Below.refl _ _).drew)
        replace hck : wr.drew.cell? ⟨g, P, none⟩ = some (.int .u8 X.toNat) := hck
        have hgd : w2.grownBy wr.drew (some g) := grown_drew hg
        have q0 : P < 4 + l.length := by omega
        have q1 : (((P : Nat) : Int) < ((4 + l.length : Nat) : Int)) := by omega
        have q2 : ((P : Int) < 4 + (l.length : Int)) := by omega
        have ek : IntKind.i64.wrap 0 = 0 := by rfl
        have q3 : (0 : Int) ≤ ((P : Nat) : Int) := by omega
        have ew2 := ew.out
        go_still_tail 17, (by kernel_rfl)
        clear ew2
        change wpList _ _ _ _ _ wr.drew
        generalize wr.drew = wd at *
        obtain ⟨b1, b2⟩ := hownd.stored (P) (byt Z)
        have hfk := hownd.frozenAt (P)
        go_wp2_with fail
        go_roundw
        case rel => exact ⟨1, xs.set (P) Z, by omega, by go_num, by simpa using hxl, by rw [stir, ← hxs, ← hP.out, hX'.out, ← hY.out, ← hZ.out], by rw [List.map_set]; exact b1, grown_after hgd b2 (fun j hj => .inr rfl)⟩
        case measure => simp [intOf]
      · -- step 1
        obtain ⟨P, hP, hPl, ew⟩ : ∃ P : Nat, Hid (P = T + 1) ∧ P < 4 + l.length ∧ Hid (IntKind.i64.wrap (((T : Nat) : Int) + 1) = (P : Int)) := ⟨T + 1, hid rfl, by omega, hid (by simp [IntKind.wrap, IntKind.signed, IntKind.bits]; omega)⟩
        have hx : (xs.map byt)[P]? = some (byt (xs.getD (P) 0)) := by
          rw [List.getElem?_map, List.getElem?_eq_getElem (by omega), List.getD_eq_getElem?_getD, List.getElem?_eq_getElem (by omega)]; rfl
        have hck : wr.cell? ⟨g, P, none⟩ = some (.int .u8 (xs.getD (P) 0).toNat) := by
          rw [hown'.cellAt (P) (by omega), hx]; rfl
        generalize hX : xs.getD (P) 0 = X at hck
        have hX' := hid hX
        clear hX hx
        obtain ⟨Y, hY, ey⟩ : ∃ Y, Hid (Y = Crc.byteOf bm 1) ∧ (bm.toNat : Int) / 256 % 256 = (Y.toNat : Int) := ⟨_, hid rfl, by rw [byteOf_int]; simp only [Nat.reduceMul, Int.reducePow]⟩
        obtain ⟨Z, hZ, ez⟩ : ∃ Z, Hid (Z = X ^^^ Y) ∧ bits .xor .u8 (X.toNat : Int) (Y.toNat : Int) = (Z.toNat : Int) := ⟨_, hid rfl, xor_u8 X Y⟩
        go_wp2_with fail
        have hownd := own_below hown' ((Below.refl _ _).drew)
        replace hck : wr.drew.cell? ⟨g, P, none⟩ = some (.int .u8 X.toNat) := hck
        have hgd : w2.grownBy wr.drew (some g) := grown_drew hg
        have q0 : P < 4 + l.length := by omega
        have q1 : (((P : Nat) : Int) < ((4 + l.length : Nat) : Int)) := by omega
        have q2 : ((P : Int) < 4 + (l.length : Int)) := by omega
        have ek : IntKind.i64.wrap 8 = 8 := by rfl
        have q3 : (0 : Int) ≤ ((P : Nat) : Int) := by omega
        have ew2 := ew.out
        go_still_tail 17, (by kernel_rfl)
        clear ew2
        change wpList _ _ _ _ _ wr.drew
        generalize wr.drew = wd at *
        obtain ⟨b1, b2⟩ := hownd.stored (P) (byt Z)
        have hfk := hownd.frozenAt (P)
        go_wp2_with fail
        go_roundw
        case rel => exact ⟨2, xs.set (P) Z, by omega, by go_num, by simpa using hxl, by rw [stir, ← hxs, ← hP.out, hX'.out, ← hY.out, ← hZ.out], by rw [List.map_set]; exact b1, grown_after hgd b2 (fun j hj => .inr rfl)⟩
        case measure => simp [intOf]
      · -- step 2
        obtain ⟨P, hP, hPl, ew⟩ : ∃ P : Nat, Hid (P = T + 2) ∧ P < 4 + l.length ∧ Hid (IntKind.i64.wrap (((T : Nat) : Int) + 2) = (P : Int)) := ⟨T + 2, hid rfl, by omega, hid (by simp [IntKind.wrap, IntKind.signed, IntKind.bits]; omega)⟩
        have hx : (xs.map byt)[P]? = some (byt (xs.getD (P) 0)) := by
          rw [List.getElem?_map, List.getElem?_eq_getElem (by omega), List.getD_eq_getElem?_getD, List.getElem?_eq_getElem (by omega)]; rfl
        have hck : wr.cell? ⟨g, P, none⟩ = some (.int .u8 (xs.getD (P) 0).toNat) := by
          rw [hown'.cellAt (P) (by omega), hx]; rfl
        generalize hX : xs.getD (P) 0 = X at hck
        have hX' := hid hX
        clear hX hx
        obtain ⟨Y, hY, ey⟩ : ∃ Y, Hid (Y = Crc.byteOf bm 2) ∧ (bm.toNat : Int) / 65536 % 256 = (Y.toNat : Int) := ⟨_, hid rfl, by rw [byteOf_int]; simp only [Nat.reduceMul, Int.reducePow]⟩
        obtain ⟨Z, hZ, ez⟩ : ∃ Z, Hid (Z = X ^^^ Y) ∧ bits .xor .u8 (X.toNat : Int) (Y.toNat : Int) = (Z.toNat : Int) := ⟨_, hid rfl, xor_u8 X Y⟩
        go_wp2_with fail
        have hownd := own_below hown' ((Below.refl _ _).drew)
        replace hck : wr.drew.cell? ⟨g, P, none⟩ = some (.int .u8 X.toNat) := hck
        have hgd : w2.grownBy wr.drew (some g) := grown_drew hg
        have q0 : P < 4 + l.length := by omega
        have q1 : (((P : Nat) : Int) < ((4 + l.length : Nat) : Int)) := by omega
        have q2 : ((P : Int) < 4 + (l.length : Int)) := by omega
        have ek : IntKind.i64.wrap 16 = 16 := by rfl
        have q3 : (0 : Int) ≤ ((P : Nat) : Int) := by omega
        have ew2 := ew.out
        go_still_tail 17, (by kernel_rfl)
        clear ew2
        change wpList _ _ _ _ _ wr.drew
        generalize wr.drew = wd at *
        obtain ⟨b1, b2⟩ := hownd.stored (P) (byt Z)
        have hfk := hownd.frozenAt (P)
        go_wp2_with fail
        go_roundw
        case rel => exact ⟨3, xs.set (P) Z, by omega, by go_num, by simpa using hxl, by rw [stir, ← hxs, ← hP.out, hX'.out, ← hY.out, ← hZ.out], by rw [List.map_set]; exact b1, grown_after hgd b2 (fun j hj => .inr rfl)⟩
        case measure => simp [intOf]
      · -- step 3
        obtain ⟨P, hP, hPl, ew⟩ : ∃ P : Nat, Hid (P = T + 3) ∧ P < 4 + l.length ∧ Hid (IntKind.i64.wrap (((T : Nat) : Int) + 3) = (P : Int)) := ⟨T + 3, hid rfl, by omega, hid (by simp [IntKind.wrap, IntKind.signed, IntKind.bits]; omega)⟩
        have hx : (xs.map byt)[P]? = some (byt (xs.getD (P) 0)) := by
          rw [List.getElem?_map, List.getElem?_eq_getElem (by omega), List.getD_eq_getElem?_getD, List.getElem?_eq_getElem (by omega)]; rfl
        have hck : wr.cell? ⟨g, P, none⟩ = some (.int .u8 (xs.getD (P) 0).toNat) := by
          rw [hown'.cellAt (P) (by omega), hx]; rfl
        generalize hX : xs.getD (P) 0 = X at hck
        have hX' := hid hX
        clear hX hx
        obtain ⟨Y, hY, ey⟩ : ∃ Y, Hid (Y = Crc.byteOf bm 3) ∧ (bm.toNat : Int) / 16777216 % 256 = (Y.toNat : Int) := ⟨_, hid rfl, by rw [byteOf_int]; simp only [Nat.reduceMul, Int.reducePow]⟩
        obtain ⟨Z, hZ, ez⟩ : ∃ Z, Hid (Z = X ^^^ Y) ∧ bits .xor .u8 (X.toNat : Int) (Y.toNat : Int) = (Z.toNat : Int) := ⟨_, hid rfl, xor_u8 X Y⟩
        have ey3 : (bm.toNat : Int) / 16777216 = (Y.toNat : Int) := by rw [← ey]; have := bm.isLt; omega
        go_wp2_with fail
        have hownd := own_below hown' ((Below.refl _ _).drew)
        replace hck : wr.drew.cell? ⟨g, P, none⟩ = some (.int .u8 X.toNat) := hck
        have hgd : w2.grownBy wr.drew (some g) := grown_drew hg
        have q0 : P < 4 + l.length := by omega
        have q1 : (((P : Nat) : Int) < ((4 + l.length : Nat) : Int)) := by omega
        have q2 : ((P : Int) < 4 + (l.length : Int)) := by omega
        have ek : IntKind.i64.wrap 24 = 24 := by rfl
        have q3 : (0 : Int) ≤ ((P : Nat) : Int) := by omega
        have ew2 := ew.out
        go_still_tail 17, (by kernel_rfl)
        clear ew2
        change wpList _ _ _ _ _ wr.drew
        generalize wr.drew = wd at *
        obtain ⟨b1, b2⟩ := hownd.stored (P) (byt Z)
        have hfk := hownd.frozenAt (P)
        go_wp2_with fail
        go_roundw
        case rel => exact ⟨4, xs.set (P) Z, by omega, by go_num, by simpa using hxl, by rw [stir, ← hxs, ← hP.out, hX'.out, ← hY.out, ← hZ.out], by rw [List.map_set]; exact b1, grown_after hgd b2 (fun j hj => .inr rfl)⟩
        case measure => simp [intOf]
      · -- behind
        have hbr : Below w.heap.size w wr := hb2.grown hg hb2.size (by intro k hk; cases hk; have := hb1'.size; omega)
        have hr := own_rd hown'
        have hop := open_any (w := wr) (c := c2) (l := stir (sealed l) T bm 4) (by rw [← hxs]; exact hr) (by rw [← hxs, hxl]; exact hc2) (by rw [← hxs, hxl]; omega) (ht.below hbr)
        rw [← hxs, hxl, hxs, hT'.out, (spoilt_behind l t (by have := hT'.out; omega) bm HBM.out).1, (spoilt_behind l t (by have := hT'.out; omega) bm HBM.out).2] at hop
        clear hxs hr hown' hg
        go_wp2_with fail
        refine hop.mono ?_
        rintro e wz ⟨vo, rfl, hown, hbo⟩
        obtain ⟨Ao, co, rfl, _⟩ := own_shape hown
        have hbz := hbr.trans (hbo.mono hbr.size)
        clear hgz
        go_wp2_with fail
        refine (seal_any (h.below hbz) hl (ht.below hbz)).mono ?_
        rintro e wt ⟨vt, rfl, hownt, hbt'⟩
        have hbt := hbz.trans (hbt'.mono hbz.size)
        obtain ⟨At, ct, rfl, hct, _⟩ := own_shape hownt
        obtain ⟨g, rfl⟩ : ∃ g, At = some ⟨g, 0, none⟩ := by
          rcases hownt.2 with ⟨hv, hn⟩ | ⟨g, cap, cur, hv, _⟩
          · omega
          · injection hv with hv; exact ⟨g, hv⟩
        have hgz := (own_lt hownt (k := g) rfl)
        go_wp2_with fail
        go_loopw [16] (fun i W => ∃ (k : Nat) (xs : List UInt8), k ≤ 4 ∧ i = .int .i64 k ∧ xs.length = 4 + l.length ∧ xs = stir (sealed l) (0) sm k ∧ W.ownsRow wz.heap.size 5 1 (.slice (some ⟨g, 0, none⟩) (4 + l.length) ct) (4 + l.length) (xs.map byt) ∧ wt.grownBy W (some g)) (fun i _ => 4 - (intOf i).toNat)
        case atStart => exact ⟨0, sealed l, by omega, rfl, sealed_length l, rfl, hownt, World.grownBy.refl _ _⟩
        case round =>
          obtain ⟨k, xs, hk, rfl, hxl, hxs, hown', hg⟩ := hrel
          rcases (show k = 0 ∨ k = 1 ∨ k = 2 ∨ k = 3 ∨ k = 4 by omega) with rfl | rfl | rfl | rfl | rfl
          · -- step 0
            have hx : (xs.map byt)[0]? = some (byt (xs.getD (0) 0)) := by
              rw [List.getElem?_map, List.getElem?_eq_getElem (by omega), List.getD_eq_getElem?_getD, List.getElem?_eq_getElem (by omega)]; rfl
            have hck : wr.cell? ⟨g, 0, none⟩ = some (.int .u8 (xs.getD (0) 0).toNat) := by
              rw [hown'.cellAt (0) (by omega), hx]; rfl
            generalize hX : xs.getD (0) 0 = X at hck
            have hX' := hid hX
            clear hX hx
            obtain ⟨Y, hY, ey⟩ : ∃ Y, Hid (Y = Crc.byteOf sm 0) ∧ (sm.toNat : Int)  % 256 = (Y.toNat : Int) := ⟨_, hid rfl, by rw [byteOf_int]; simp only [Nat.mul_zero, Int.pow_zero, Int.ediv_one]⟩
            obtain ⟨Z, hZ, ez⟩ : ∃ Z, Hid (Z = X ^^^ Y) ∧ bits .xor .u8 (X.toNat : Int) (Y.toNat : Int) = (Z.toNat : Int) := ⟨_, hid rfl, xor_u8 X Y⟩
            go_wp2_with fail
            have hownd := own_below hown' ((Below.refl _ _).drew)
            replace hck : wr.drew.cell? ⟨g, 0, none⟩ = some (.int .u8 X.toNat) := hck
            have hgd : wt.grownBy wr.drew (some g) := grown_drew hg
            have q0 : 0 < 4 + l.length := by omega
            have q1 : (((0 : Nat) : Int) < ((4 + l.length : Nat) : Int)) := by omega
            have q2 : ((0 : Int) < 4 + (l.length : Int)) := by omega
            have ek : IntKind.i64.wrap 0 = 0 := by rfl
            have q3 : (0 : Int) ≤ ((0 : Nat) : Int) := by omega
            go_still_tail 13, (by kernel_rfl)
            change wpList _ _ _ _ _ wr.drew
            generalize wr.drew = wd at *
            obtain ⟨b1, b2⟩ := hownd.stored (0) (byt Z)
            have hfk := hownd.frozenAt (0)
            go_wp2_with fail
            go_roundw
            case rel => exact ⟨1, xs.set (0) Z, by omega, by go_num, by simpa using hxl, by rw [stir, ← hxs, hX'.out, ← hY.out, ← hZ.out], by rw [List.map_set]; exact b1, grown_after hgd b2 (fun j hj => .inr rfl)⟩
            case measure => simp [intOf]
          · -- step 1
            have hx : (xs.map byt)[1]? = some (byt (xs.getD (1) 0)) := by
              rw [List.getElem?_map, List.getElem?_eq_getElem (by omega), List.getD_eq_getElem?_getD, List.getElem?_eq_getElem (by omega)]; rfl
            have hck : wr.cell? ⟨g, 1, none⟩ = some (.int .u8 (xs.getD (1) 0).toNat) := by
              rw [hown'.cellAt (1) (by omega), hx]; rfl
            generalize hX : xs.getD (1) 0 = X at hck
            have hX' := hid hX
            clear hX hx
            obtain ⟨Y, hY, ey⟩ : ∃ Y, Hid (Y = Crc.byteOf sm 1) ∧ (sm.toNat : Int) / 256 % 256 = (Y.toNat : Int) := ⟨_, hid rfl, by rw [byteOf_int]; simp only [Nat.reduceMul, Int.reducePow]⟩
            obtain ⟨Z, hZ, ez⟩ : ∃ Z, Hid (Z = X ^^^ Y) ∧ bits .xor .u8 (X.toNat : Int) (Y.toNat : Int) = (Z.toNat : Int) := ⟨_, hid rfl, xor_u8 X Y⟩
            go_wp2_with fail
            have hownd := own_below hown' ((Below.refl _ _).drew)
            replace hck : wr.drew.cell? ⟨g, 1, none⟩ = some (.int .u8 X.toNat) := hck
            have hgd : wt.grownBy wr.drew (some g) := grown_drew hg
            have q0 : 1 < 4 + l.length := by omega
            have q1 : (((1 : Nat) : Int) < ((4 + l.length : Nat) : Int)) := by omega
            have q2 : ((1 : Int) < 4 + (l.length : Int)) := by omega
            have ek : IntKind.i64.wrap 8 = 8 := by rfl
            have q3 : (0 : Int) ≤ ((1 : Nat) : Int) := by omega
            go_still_tail 13, (by kernel_rfl)
            change wpList _ _ _ _ _ wr.drew
            generalize wr.drew = wd at *
            obtain ⟨b1, b2⟩ := hownd.stored (1) (byt Z)
            have hfk := hownd.frozenAt (1)
            go_wp2_with fail
            go_roundw
            case rel => exact ⟨2, xs.set (1) Z, by omega, by go_num, by simpa using hxl, by rw [stir, ← hxs, hX'.out, ← hY.out, ← hZ.out], by rw [List.map_set]; exact b1, grown_after hgd b2 (fun j hj => .inr rfl)⟩
            case measure => simp [intOf]
          · -- step 2
            have hx : (xs.map byt)[2]? = some (byt (xs.getD (2) 0)) := by
              rw [List.getElem?_map, List.getElem?_eq_getElem (by omega), List.getD_eq_getElem?_getD, List.getElem?_eq_getElem (by omega)]; rfl
            have hck : wr.cell? ⟨g, 2, none⟩ = some (.int .u8 (xs.getD (2) 0).toNat) := by
              rw [hown'.cellAt (2) (by omega), hx]; rfl
            generalize hX : xs.getD (2) 0 = X at hck
            have hX' := hid hX
            clear hX hx
            obtain ⟨Y, hY, ey⟩ : ∃ Y, Hid (Y = Crc.byteOf sm 2) ∧ (sm.toNat : Int) / 65536 % 256 = (Y.toNat : Int) := ⟨_, hid rfl, by rw [byteOf_int]; simp only [Nat.reduceMul, Int.reducePow]⟩
            obtain ⟨Z, hZ, ez⟩ : ∃ Z, Hid (Z = X ^^^ Y) ∧ bits .xor .u8 (X.toNat : Int) (Y.toNat : Int) = (Z.toNat : Int) := ⟨_, hid rfl, xor_u8 X Y⟩
            go_wp2_with fail
            have hownd := own_below hown' ((Below.refl _ _).drew)
            replace hck : wr.drew.cell? ⟨g, 2, none⟩ = some (.int .u8 X.toNat) := hck
            have hgd : wt.grownBy wr.drew (some g) := grown_drew hg
            have q0 : 2 < 4 + l.length := by omega
            have q1 : (((2 : Nat) : Int) < ((4 + l.length : Nat) : Int)) := by omega
            have q2 : ((2 : Int) < 4 + (l.length : Int)) := by omega
            have ek : IntKind.i64.wrap 16 = 16 := by rfl
            have q3 : (0 : Int) ≤ ((2 : Nat) : Int) := by omega
            go_still_tail 13, (by kernel_rfl)
            change wpList _ _ _ _ _ wr.drew
            generalize wr.drew = wd at *
            obtain ⟨b1, b2⟩ := hownd.stored (2) (byt Z)
            have hfk := hownd.frozenAt (2)
            go_wp2_with fail
            go_roundw
            case rel => exact ⟨3, xs.set (2) Z, by omega, by go_num, by simpa using hxl, by rw [stir, ← hxs, hX'.out, ← hY.out, ← hZ.out], by rw [List.map_set]; exact b1, grown_after hgd b2 (fun j hj => .inr rfl)⟩
            case measure => simp [intOf]
          · -- step 3
            have hx : (xs.map byt)[3]? = some (byt (xs.getD (3) 0)) := by
              rw [List.getElem?_map, List.getElem?_eq_getElem (by omega), List.getD_eq_getElem?_getD, List.getElem?_eq_getElem (by omega)]; rfl
            have hck : wr.cell? ⟨g, 3, none⟩ = some (.int .u8 (xs.getD (3) 0).toNat) := by
              rw [hown'.cellAt (3) (by omega), hx]; rfl
            generalize hX : xs.getD (3) 0 = X at hck
            have hX' := hid hX
            clear hX hx
            obtain ⟨Y, hY, ey⟩ : ∃ Y, Hid (Y = Crc.byteOf sm 3) ∧ (sm.toNat : Int) / 16777216 % 256 = (Y.toNat : Int) := ⟨_, hid rfl, by rw [byteOf_int]; simp only [Nat.reduceMul, Int.reducePow]⟩
            obtain ⟨Z, hZ, ez⟩ : ∃ Z, Hid (Z = X ^^^ Y) ∧ bits .xor .u8 (X.toNat : Int) (Y.toNat : Int) = (Z.toNat : Int) := ⟨_, hid rfl, xor_u8 X Y⟩
            have ey3 : (sm.toNat : Int) / 16777216 = (Y.toNat : Int) := by rw [← ey]; have := sm.isLt; omega
            go_wp2_with fail
            have hownd := own_below hown' ((Below.refl _ _).drew)
            replace hck : wr.drew.cell? ⟨g, 3, none⟩ = some (.int .u8 X.toNat) := hck
            have hgd : wt.grownBy wr.drew (some g) := grown_drew hg
            have q0 : 3 < 4 + l.length := by omega
            have q1 : (((3 : Nat) : Int) < ((4 + l.length : Nat) : Int)) := by omega
            have q2 : ((3 : Int) < 4 + (l.length : Int)) := by omega
            have ek : IntKind.i64.wrap 24 = 24 := by rfl
            have q3 : (0 : Int) ≤ ((3 : Nat) : Int) := by omega
            go_still_tail 13, (by kernel_rfl)
            change wpList _ _ _ _ _ wr.drew
            generalize wr.drew = wd at *
            obtain ⟨b1, b2⟩ := hownd.stored (3) (byt Z)
            have hfk := hownd.frozenAt (3)
            go_wp2_with fail
            go_roundw
            case rel => exact ⟨4, xs.set (3) Z, by omega, by go_num, by simpa using hxl, by rw [stir, ← hxs, hX'.out, ← hY.out, ← hZ.out], by rw [List.map_set]; exact b1, grown_after hgd b2 (fun j hj => .inr rfl)⟩
            case measure => simp [intOf]
          · -- behind
            have hbr : Below w.heap.size w wr := hbt.grown hg hbt.size (by intro k hk; cases hk; have := hbz.size; omega)
            have hr := own_rd hown'
            have hop := open_any (w := wr) (c := ct) (l := stir (sealed l) 0 sm 4) (by rw [← hxs]; exact hr) (by rw [← hxs, hxl]; exact hct) (by rw [← hxs, hxl]; omega) (ht.below hbr)
            rw [← hxs, hxl, hxs, spoilt_in] at hop
            clear hxs hr hown' hg
            by_cases hs0 : sm = 0#32
            · rw [if_pos hs0] at hop
              subst hs0
              go_wp2_with fail
              refine hop.mono ?_
              rintro e wo ⟨vo, rfl, hown, hbo⟩
              go_wp2_with fail
              go_ret
              exact ⟨rfl, hbr.trans (hbo.mono hbr.size)⟩
            · rw [if_neg hs0] at hop
              have hs1 : ((sm.toNat : Int) == 0) = false := by
                rw [beq_eq_false_iff_ne]; intro h; apply hs0; apply BitVec.eq_of_toNat_eq; simp; omega
              clear hs0
              go_wp2_with fail
              refine hop.mono ?_
              rintro e wo ⟨vo, rfl, hown, hbo⟩
              go_wp2_with fail
              go_ret
              exact ⟨rfl, hbr.trans (hbo.mono hbr.size)⟩
  · go_enter Tryd.func5, Tryd.ntmps5
    go_wp2_with fail
    refine (head_any ht).mono ?_
    rintro e w1 ⟨rfl, hb1'⟩
    go_wp2_with fail
    refine (seal_any (h.below hb1') hl (ht.below hb1')).mono ?_
    rintro e wz ⟨v2, rfl, hown2, hb2'⟩
    have hbz := hb1'.trans (hb2'.mono hb1'.size)
    obtain ⟨A2, c2, rfl, hc2, _⟩ := own_shape hown2
    clear hown2
    have hdec : (4 ≤ l.length) ∨ ¬ (4 ≤ l.length) := by omega
    rcases hdec with h4 | h4
    · obtain rfl : bm = 0#32 := Classical.byContradiction fun h => hcnd ⟨h4, h⟩
      clear hcnd
      go_wp2_with fail
      refine (seal_any (h.below hbz) hl (ht.below hbz)).mono ?_
      rintro e wt ⟨vt, rfl, hownt, hbt'⟩
      have hbt := hbz.trans (hbt'.mono hbz.size)
      obtain ⟨At, ct, rfl, hct, _⟩ := own_shape hownt
      obtain ⟨g, rfl⟩ : ∃ g, At = some ⟨g, 0, none⟩ := by
        rcases hownt.2 with ⟨hv, hn⟩ | ⟨g, cap, cur, hv, _⟩
        · omega
        · injection hv with hv; exact ⟨g, hv⟩
      have hgz := (own_lt hownt (k := g) rfl)
      go_wp2_with fail
      go_loopw [16] (fun i W => ∃ (k : Nat) (xs : List UInt8), k ≤ 4 ∧ i = .int .i64 k ∧ xs.length = 4 + l.length ∧ xs = stir (sealed l) (0) sm k ∧ W.ownsRow wz.heap.size 5 1 (.slice (some ⟨g, 0, none⟩) (4 + l.length) ct) (4 + l.length) (xs.map byt) ∧ wt.grownBy W (some g)) (fun i _ => 4 - (intOf i).toNat)
      case atStart => exact ⟨0, sealed l, by omega, rfl, sealed_length l, rfl, hownt, World.grownBy.refl _ _⟩
      case round =>
        obtain ⟨k, xs, hk, rfl, hxl, hxs, hown', hg⟩ := hrel
        rcases (show k = 0 ∨ k = 1 ∨ k = 2 ∨ k = 3 ∨ k = 4 by omega) with rfl | rfl | rfl | rfl | rfl
        · -- step 0
          have hx : (xs.map byt)[0]? = some (byt (xs.getD (0) 0)) := by
            rw [List.getElem?_map, List.getElem?_eq_getElem (by omega), List.getD_eq_getElem?_getD, List.getElem?_eq_getElem (by omega)]; rfl
          have hck : wr.cell? ⟨g, 0, none⟩ = some (.int .u8 (xs.getD (0) 0).toNat) := by
            rw [hown'.cellAt (0) (by omega), hx]; rfl
          generalize hX : xs.getD (0) 0 = X at hck
          have hX' := hid hX
          clear hX hx
          obtain ⟨Y, hY, ey⟩ : ∃ Y, Hid (Y = Crc.byteOf sm 0) ∧ (sm.toNat : Int)  % 256 = (Y.toNat : Int) := ⟨_, hid rfl, by rw [byteOf_int]; simp only [Nat.mul_zero, Int.pow_zero, Int.ediv_one]⟩
          obtain ⟨Z, hZ, ez⟩ : ∃ Z, Hid (Z = X ^^^ Y) ∧ bits .xor .u8 (X.toNat : Int) (Y.toNat : Int) = (Z.toNat : Int) := ⟨_, hid rfl, xor_u8 X Y⟩
          go_wp2_with fail
          have hownd := own_below hown' ((Below.refl _ _).drew)
          replace hck : wr.drew.cell? ⟨g, 0, none⟩ = some (.int .u8 X.toNat) := hck
          have hgd : wt.grownBy wr.drew (some g) := grown_drew hg
          have q0 : 0 < 4 + l.length := by omega
          have q1 : (((0 : Nat) : Int) < ((4 + l.length : Nat) : Int)) := by omega
          have q2 : ((0 : Int) < 4 + (l.length : Int)) := by omega
          have ek : IntKind.i64.wrap 0 = 0 := by rfl
          have q3 : (0 : Int) ≤ ((0 : Nat) : Int) := by omega
          go_still_tail 13, (by kernel_rfl)
          change wpList _ _ _ _ _ wr.drew
          generalize wr.drew = wd at *
          obtain ⟨b1, b2⟩ := hownd.stored (0) (byt Z)
          have hfk := hownd.frozenAt (0)
          go_wp2_with fail
          go_roundw
          case rel => exact ⟨1, xs.set (0) Z, by omega, by go_num, by simpa using hxl, by rw [stir, ← hxs, hX'.out, ← hY.out, ← hZ.out], by rw [List.map_set]; exact b1, grown_after hgd b2 (fun j hj => .inr rfl)⟩
          case measure => simp [intOf]
        · -- step 1
          have hx : (xs.map byt)[1]? = some (byt (xs.getD (1) 0)) := by
            rw [List.getElem?_map, List.getElem?_eq_getElem (by omega), List.getD_eq_getElem?_getD, List.getElem?_eq_getElem (by omega)]; rfl
          have hck : wr.cell? ⟨g, 1, none⟩ = some (.int .u8 (xs.getD (1) 0).toNat) := by
            rw [hown'.cellAt (1) (by omega), hx]; rfl
          generalize hX : xs.getD (1) 0 = X at hck
          have hX' := hid hX
          clear hX hx
          obtain ⟨Y, hY, ey⟩ : ∃ Y, Hid (Y = Crc.byteOf sm 1) ∧ (sm.toNat : Int) / 256 % 256 = (Y.toNat : Int) := ⟨_, hid rfl, by rw [byteOf_int]; simp only [Nat.reduceMul, Int.reducePow]⟩
          obtain ⟨Z, hZ, ez⟩ : ∃ Z, Hid (Z = X ^^^ Y) ∧ bits .xor .u8 (X.toNat : Int) (Y.toNat : Int) = (Z.toNat : Int) := ⟨_, hid rfl, xor_u8 X Y⟩
          go_wp2_with fail
          have hownd := own_below hown' ((Below.refl _ _).drew)
          replace hck : wr.drew.cell? ⟨g, 1, none⟩ = some (.int .u8 X.toNat) := hck
          have hgd : wt.grownBy wr.drew (some g) := grown_drew hg
          have q0 : 1 < 4 + l.length := by omega
          have q1 : (((1 : Nat) : Int) < ((4 + l.length : Nat) : Int)) := by omega
          have q2 : ((1 : Int) < 4 + (l.length : Int)) := by omega
          have ek : IntKind.i64.wrap 8 = 8 := by rfl
          have q3 : (0 : Int) ≤ ((1 : Nat) : Int) := by omega
          go_still_tail 13, (by kernel_rfl)
          change wpList _ _ _ _ _ wr.drew
          generalize wr.drew = wd at *
          obtain ⟨b1, b2⟩ := hownd.stored (1) (byt Z)
          have hfk := hownd.frozenAt (1)
          go_wp2_with fail
          go_roundw
          case rel => exact ⟨2, xs.set (1) Z, by omega, by go_num, by simpa using hxl, by rw [stir, ← hxs, hX'.out, ← hY.out, ← hZ.out], by rw [List.map_set]; exact b1, grown_after hgd b2 (fun j hj => .inr rfl)⟩
          case measure => simp [intOf]
        · -- step 2
          have hx : (xs.map byt)[2]? = some (byt (xs.getD (2) 0)) := by
            rw [List.getElem?_map, List.getElem?_eq_getElem (by omega), List.getD_eq_getElem?_getD, List.getElem?_eq_getElem (by omega)]; rfl
          have hck : wr.cell? ⟨g, 2, none⟩ = some (.int .u8 (xs.getD (2) 0).toNat) := by
            rw [hown'.cellAt (2) (by omega), hx]; rfl
          generalize hX : xs.getD (2) 0 = X at hck
          have hX' := hid hX
          clear hX hx
          obtain ⟨Y, hY, ey⟩ : ∃ Y, Hid (Y = Crc.byteOf sm 2) ∧ (sm.toNat : Int) / 65536 % 256 = (Y.toNat : Int) := ⟨_, hid rfl, by rw [byteOf_int]; simp only [Nat.reduceMul, Int.reducePow]⟩
          obtain ⟨Z, hZ, ez⟩ : ∃ Z, Hid (Z = X ^^^ Y) ∧ bits .xor .u8 (X.toNat : Int) (Y.toNat : Int) = (Z.toNat : Int) := ⟨_, hid rfl, xor_u8 X Y⟩
          go_wp2_with fail
          have hownd := own_below hown' ((Below.refl _ _).drew)
          replace hck : wr.drew.cell? ⟨g, 2, none⟩ = some (.int .u8 X.toNat) := hck
          have hgd : wt.grownBy wr.drew (some g) := grown_drew hg
          have q0 : 2 < 4 + l.length := by omega
          have q1 : (((2 : Nat) : Int) < ((4 + l.length : Nat) : Int)) := by omega
          have q2 : ((2 : Int) < 4 + (l.length : Int)) := by omega
          have ek : IntKind.i64.wrap 16 = 16 := by rfl
          have q3 : (0 : Int) ≤ ((2 : Nat) : Int) := by omega
          go_still_tail 13, (by kernel_rfl)
          change wpList _ _ _ _ _ wr.drew
          generalize wr.drew = wd at *
          obtain ⟨b1, b2⟩ := hownd.stored (2) (byt Z)
          have hfk := hownd.frozenAt (2)
          go_wp2_with fail
          go_roundw
          case rel => exact ⟨3, xs.set (2) Z, by omega, by go_num, by simpa using hxl, by rw [stir, ← hxs, hX'.out, ← hY.out, ← hZ.out], by rw [List.map_set]; exact b1, grown_after hgd b2 (fun j hj => .inr rfl)⟩
          case measure => simp [intOf]
        · -- step 3
          have hx : (xs.map byt)[3]? = some (byt (xs.getD (3) 0)) := by
            rw [List.getElem?_map, List.getElem?_eq_getElem (by omega), List.getD_eq_getElem?_getD, List.getElem?_eq_getElem (by omega)]; rfl
          have hck : wr.cell? ⟨g, 3, none⟩ = some (.int .u8 (xs.getD (3) 0).toNat) := by
            rw [hown'.cellAt (3) (by omega), hx]; rfl
          generalize hX : xs.getD (3) 0 = X at hck
          have hX' := hid hX
          clear hX hx
          obtain ⟨Y, hY, ey⟩ : ∃ Y, Hid (Y = Crc.byteOf sm 3) ∧ (sm.toNat : Int) / 16777216 % 256 = (Y.toNat : Int) := ⟨_, hid rfl, by rw [byteOf_int]; simp only [Nat.reduceMul, Int.reducePow]⟩
          obtain ⟨Z, hZ, ez⟩ : ∃ Z, Hid (Z = X ^^^ Y) ∧ bits .xor .u8 (X.toNat : Int) (Y.toNat : Int) = (Z.toNat : Int) := ⟨_, hid rfl, xor_u8 X Y⟩
          have ey3 : (sm.toNat : Int) / 16777216 = (Y.toNat : Int) := by rw [← ey]; have := sm.isLt; omega
          go_wp2_with fail
          have hownd := own_below hown' ((Below.refl _ _).drew)
          replace hck : wr.drew.cell? ⟨g, 3, none⟩ = some (.int .u8 X.toNat) := hck
          have hgd : wt.grownBy wr.drew (some g) := grown_drew hg
          have q0 : 3 < 4 + l.length := by omega
          have q1 : (((3 : Nat) : Int) < ((4 + l.length : Nat) : Int)) := by omega
          have q2 : ((3 : Int) < 4 + (l.length : Int)) := by omega
          have ek : IntKind.i64.wrap 24 = 24 := by rfl
          have q3 : (0 : Int) ≤ ((3 : Nat) : Int) := by omega
          go_still_tail 13, (by kernel_rfl)
          change wpList _ _ _ _ _ wr.drew
          generalize wr.drew = wd at *
          obtain ⟨b1, b2⟩ := hownd.stored (3) (byt Z)
          have hfk := hownd.frozenAt (3)
          go_wp2_with fail
          go_roundw
          case rel => exact ⟨4, xs.set (3) Z, by omega, by go_num, by simpa using hxl, by rw [stir, ← hxs, hX'.out, ← hY.out, ← hZ.out], by rw [List.map_set]; exact b1, grown_after hgd b2 (fun j hj => .inr rfl)⟩
          case measure => simp [intOf]
        · -- behind
          have hbr : Below w.heap.size w wr := hbt.grown hg hbt.size (by intro k hk; cases hk; have := hbz.size; omega)
          have hr := own_rd hown'
          have hop := open_any (w := wr) (c := ct) (l := stir (sealed l) 0 sm 4) (by rw [← hxs]; exact hr) (by rw [← hxs, hxl]; exact hct) (by rw [← hxs, hxl]; omega) (ht.below hbr)
          rw [← hxs, hxl, hxs, spoilt_in] at hop
          clear hxs hr hown' hg
          by_cases hs0 : sm = 0#32
          · rw [if_pos hs0] at hop
            subst hs0
            go_wp2_with fail
            refine hop.mono ?_
            rintro e wo ⟨vo, rfl, hown, hbo⟩
            go_wp2_with fail
            go_ret
            exact ⟨rfl, hbr.trans (hbo.mono hbr.size)⟩
          · rw [if_neg hs0] at hop
            have hs1 : ((sm.toNat : Int) == 0) = false := by
              rw [beq_eq_false_iff_ne]; intro h; apply hs0; apply BitVec.eq_of_toNat_eq; simp; omega
            clear hs0
            go_wp2_with fail
            refine hop.mono ?_
            rintro e wo ⟨vo, rfl, hown, hbo⟩
            go_wp2_with fail
            go_ret
            exact ⟨rfl, hbr.trans (hbo.mono hbr.size)⟩
    · clear hcnd
      go_wp2_with fail
      refine (seal_any (h.below hbz) hl (ht.below hbz)).mono ?_
      rintro e wt ⟨vt, rfl, hownt, hbt'⟩
      have hbt := hbz.trans (hbt'.mono hbz.size)
      obtain ⟨At, ct, rfl, hct, _⟩ := own_shape hownt
      obtain ⟨g, rfl⟩ : ∃ g, At = some ⟨g, 0, none⟩ := by
        rcases hownt.2 with ⟨hv, hn⟩ | ⟨g, cap, cur, hv, _⟩
        · omega
        · injection hv with hv; exact ⟨g, hv⟩
      have hgz := (own_lt hownt (k := g) rfl)
      go_wp2_with fail
      go_loopw [16] (fun i W => ∃ (k : Nat) (xs : List UInt8), k ≤ 4 ∧ i = .int .i64 k ∧ xs.length = 4 + l.length ∧ xs = stir (sealed l) (0) sm k ∧ W.ownsRow wz.heap.size 5 1 (.slice (some ⟨g, 0, none⟩) (4 + l.length) ct) (4 + l.length) (xs.map byt) ∧ wt.grownBy W (some g)) (fun i _ => 4 - (intOf i).toNat)
      case atStart => exact ⟨0, sealed l, by omega, rfl, sealed_length l, rfl, hownt, World.grownBy.refl _ _⟩
      case round =>
        obtain ⟨k, xs, hk, rfl, hxl, hxs, hown', hg⟩ := hrel
        rcases (show k = 0 ∨ k = 1 ∨ k = 2 ∨ k = 3 ∨ k = 4 by omega) with rfl | rfl | rfl | rfl | rfl
        · -- step 0
          have hx : (xs.map byt)[0]? = some (byt (xs.getD (0) 0)) := by
            rw [List.getElem?_map, List.getElem?_eq_getElem (by omega), List.getD_eq_getElem?_getD, List.getElem?_eq_getElem (by omega)]; rfl
          have hck : wr.cell? ⟨g, 0, none⟩ = some (.int .u8 (xs.getD (0) 0).toNat) := by
            rw [hown'.cellAt (0) (by omega), hx]; rfl
          generalize hX : xs.getD (0) 0 = X at hck
          have hX' := hid hX
          clear hX hx
          obtain ⟨Y, hY, ey⟩ : ∃ Y, Hid (Y = Crc.byteOf sm 0) ∧ (sm.toNat : Int)  % 256 = (Y.toNat : Int) := ⟨_, hid rfl, by rw [byteOf_int]; simp only [Nat.mul_zero, Int.pow_zero, Int.ediv_one]⟩
          obtain ⟨Z, hZ, ez⟩ : ∃ Z, Hid (Z = X ^^^ Y) ∧ bits .xor .u8 (X.toNat : Int) (Y.toNat : Int) = (Z.toNat : Int) := ⟨_, hid rfl, xor_u8 X Y⟩
          go_wp2_with fail
          have hownd := own_below hown' ((Below.refl _ _).drew)
          replace hck : wr.drew.cell? ⟨g, 0, none⟩ = some (.int .u8 X.toNat) := hck
          have hgd : wt.grownBy wr.drew (some g) := grown_drew hg
          have q0 : 0 < 4 + l.length := by omega
          have q1 : (((0 : Nat) : Int) < ((4 + l.length : Nat) : Int)) := by omega
          have q2 : ((0 : Int) < 4 + (l.length : Int)) := by omega
          have ek : IntKind.i64.wrap 0 = 0 := by rfl
          have q3 : (0 : Int) ≤ ((0 : Nat) : Int) := by omega
          go_still_tail 13, (by kernel_rfl)
          change wpList _ _ _ _ _ wr.drew
          generalize wr.drew = wd at *
          obtain ⟨b1, b2⟩ := hownd.stored (0) (byt Z)
          have hfk := hownd.frozenAt (0)
          go_wp2_with fail
          go_roundw
          case rel => exact ⟨1, xs.set (0) Z, by omega, by go_num, by simpa using hxl, by rw [stir, ← hxs, hX'.out, ← hY.out, ← hZ.out], by rw [List.map_set]; exact b1, grown_after hgd b2 (fun j hj => .inr rfl)⟩
          case measure => simp [intOf]
        · -- step 1
          have hx : (xs.map byt)[1]? = some (byt (xs.getD (1) 0)) := by
            rw [List.getElem?_map, List.getElem?_eq_getElem (by omega), List.getD_eq_getElem?_getD, List.getElem?_eq_getElem (by omega)]; rfl
          have hck : wr.cell? ⟨g, 1, none⟩ = some (.int .u8 (xs.getD (1) 0).toNat) := by
            rw [hown'.cellAt (1) (by omega), hx]; rfl
          generalize hX : xs.getD (1) 0 = X at hck
          have hX' := hid hX
          clear hX hx
          obtain ⟨Y, hY, ey⟩ : ∃ Y, Hid (Y = Crc.byteOf sm 1) ∧ (sm.toNat : Int) / 256 % 256 = (Y.toNat : Int) := ⟨_, hid rfl, by rw [byteOf_int]; simp only [Nat.reduceMul, Int.reducePow]⟩
          obtain ⟨Z, hZ, ez⟩ : ∃ Z, Hid (Z = X ^^^ Y) ∧ bits .xor .u8 (X.toNat : Int) (Y.toNat : Int) = (Z.toNat : Int) := ⟨_, hid rfl, xor_u8 X Y⟩
          go_wp2_with fail
          have hownd := own_below hown' ((Below.refl _ _).drew)
          replace hck : wr.drew.cell? ⟨g, 1, none⟩ = some (.int .u8 X.toNat) := hck
          have hgd : wt.grownBy wr.drew (some g) := grown_drew hg
          have q0 : 1 < 4 + l.length := by omega
          have q1 : (((1 : Nat) : Int) < ((4 + l.length : Nat) : Int)) := by omega
          have q2 : ((1 : Int) < 4 + (l.length : Int)) := by omega
          have ek : IntKind.i64.wrap 8 = 8 := by rfl
          have q3 : (0 : Int) ≤ ((1 : Nat) : Int) := by omega
          go_still_tail 13, (by kernel_rfl)
          change wpList _ _ _ _ _ wr.drew
          generalize wr.drew = wd at *
          obtain ⟨b1, b2⟩ := hownd.stored (1) (byt Z)
          have hfk := hownd.frozenAt (1)
          go_wp2_with fail
          go_roundw
          case rel => exact ⟨2, xs.set (1) Z, by omega, by go_num, by simpa using hxl, by rw [stir, ← hxs, hX'.out, ← hY.out, ← hZ.out], by rw [List.map_set]; exact b1, grown_after hgd b2 (fun j hj => .inr rfl)⟩
          case measure => simp [intOf]
        · -- step 2
          have hx : (xs.map byt)[2]? = some (byt (xs.getD (2) 0)) := by
            rw [List.getElem?_map, List.getElem?_eq_getElem (by omega), List.getD_eq_getElem?_getD, List.getElem?_eq_getElem (by omega)]; rfl
          have hck : wr.cell? ⟨g, 2, none⟩ = some (.int .u8 (xs.getD (2) 0).toNat) := by
            rw [hown'.cellAt (2) (by omega), hx]; rfl
          generalize hX : xs.getD (2) 0 = X at hck
          have hX' := hid hX
          clear hX hx
          obtain ⟨Y, hY, ey⟩ : ∃ Y, Hid (Y = Crc.byteOf sm 2) ∧ (sm.toNat : Int) / 65536 % 256 = (Y.toNat : Int) := ⟨_, hid rfl, by rw [byteOf_int]; simp only [Nat.reduceMul, Int.reducePow]⟩
          obtain ⟨Z, hZ, ez⟩ : ∃ Z, Hid (Z = X ^^^ Y) ∧ bits .xor .u8 (X.toNat : Int) (Y.toNat : Int) = (Z.toNat : Int) := ⟨_, hid rfl, xor_u8 X Y⟩
          go_wp2_with fail
          have hownd := own_below hown' ((Below.refl _ _).drew)
          replace hck : wr.drew.cell? ⟨g, 2, none⟩ = some (.int .u8 X.toNat) := hck
          have hgd : wt.grownBy wr.drew (some g) := grown_drew hg
          have q0 : 2 < 4 + l.length := by omega
          have q1 : (((2 : Nat) : Int) < ((4 + l.length : Nat) : Int)) := by omega
          have q2 : ((2 : Int) < 4 + (l.length : Int)) := by omega
          have ek : IntKind.i64.wrap 16 = 16 := by rfl
          have q3 : (0 : Int) ≤ ((2 : Nat) : Int) := by omega
          go_still_tail 13, (by kernel_rfl)
          change wpList _ _ _ _ _ wr.drew
          generalize wr.drew = wd at *
          obtain ⟨b1, b2⟩ := hownd.stored (2) (byt Z)
          have hfk := hownd.frozenAt (2)
          go_wp2_with fail
          go_roundw
          case rel => exact ⟨3, xs.set (2) Z, by omega, by go_num, by simpa using hxl, by rw [stir, ← hxs, hX'.out, ← hY.out, ← hZ.out], by rw [List.map_set]; exact b1, grown_after hgd b2 (fun j hj => .inr rfl)⟩
          case measure => simp [intOf]
        · -- step 3
          have hx : (xs.map byt)[3]? = some (byt (xs.getD (3) 0)) := by
            rw [List.getElem?_map, List.getElem?_eq_getElem (by omega), List.getD_eq_getElem?_getD, List.getElem?_eq_getElem (by omega)]; rfl
          have hck : wr.cell? ⟨g, 3, none⟩ = some (.int .u8 (xs.getD (3) 0).toNat) := by
            rw [hown'.cellAt (3) (by omega), hx]; rfl
          generalize hX : xs.getD (3) 0 = X at hck
          have hX' := hid hX
          clear hX hx
          obtain ⟨Y, hY, ey⟩ : ∃ Y, Hid (Y = Crc.byteOf sm 3) ∧ (sm.toNat : Int) / 16777216 % 256 = (Y.toNat : Int) := ⟨_, hid rfl, by rw [byteOf_int]; simp only [Nat.reduceMul, Int.reducePow]⟩
          obtain ⟨Z, hZ, ez⟩ : ∃ Z, Hid (Z = X ^^^ Y) ∧ bits .xor .u8 (X.toNat : Int) (Y.toNat : Int) = (Z.toNat : Int) := ⟨_, hid rfl, xor_u8 X Y⟩
          have ey3 : (sm.toNat : Int) / 16777216 = (Y.toNat : Int) := by rw [← ey]; have := sm.isLt; omega
          go_wp2_with fail
          have hownd := own_below hown' ((Below.refl _ _).drew)
          replace hck : wr.drew.cell? ⟨g, 3, none⟩ = some (.int .u8 X.toNat) := hck
          have hgd : wt.grownBy wr.drew (some g) := grown_drew hg
          have q0 : 3 < 4 + l.length := by omega
          have q1 : (((3 : Nat) : Int) < ((4 + l.length : Nat) : Int)) := by omega
          have q2 : ((3 : Int) < 4 + (l.length : Int)) := by omega
          have ek : IntKind.i64.wrap 24 = 24 := by rfl
          have q3 : (0 : Int) ≤ ((3 : Nat) : Int) := by omega
          go_still_tail 13, (by kernel_rfl)
          change wpList _ _ _ _ _ wr.drew
          generalize wr.drew = wd at *
          obtain ⟨b1, b2⟩ := hownd.stored (3) (byt Z)
          have hfk := hownd.frozenAt (3)
          go_wp2_with fail
          go_roundw
          case rel => exact ⟨4, xs.set (3) Z, by omega, by go_num, by simpa using hxl, by rw [stir, ← hxs, hX'.out, ← hY.out, ← hZ.out], by rw [List.map_set]; exact b1, grown_after hgd b2 (fun j hj => .inr rfl)⟩
          case measure => simp [intOf]
        · -- behind
          have hbr : Below w.heap.size w wr := hbt.grown hg hbt.size (by intro k hk; cases hk; have := hbz.size; omega)
          have hr := own_rd hown'
          have hop := open_any (w := wr) (c := ct) (l := stir (sealed l) 0 sm 4) (by rw [← hxs]; exact hr) (by rw [← hxs, hxl]; exact hct) (by rw [← hxs, hxl]; omega) (ht.below hbr)
          rw [← hxs, hxl, hxs, spoilt_in] at hop
          clear hxs hr hown' hg
          by_cases hs0 : sm = 0#32
          · rw [if_pos hs0] at hop
            subst hs0
            go_wp2_with fail
            refine hop.mono ?_
            rintro e wo ⟨vo, rfl, hown, hbo⟩
            go_wp2_with fail
            go_ret
            exact ⟨rfl, hbr.trans (hbo.mono hbr.size)⟩
          · rw [if_neg hs0] at hop
            have hs1 : ((sm.toNat : Int) == 0) = false := by
              rw [beq_eq_false_iff_ne]; intro h; apply hs0; apply BitVec.eq_of_toNat_eq; simp; omega
            clear hs0
            go_wp2_with fail
            refine hop.mono ?_
            rintro e wo ⟨vo, rfl, hown, hbo⟩
            go_wp2_with fail
            go_ret
            exact ⟨rfl, hbr.trans (hbo.mono hbr.size)⟩
end Go.Proofs.YtengfmcfklakbaaDoor
