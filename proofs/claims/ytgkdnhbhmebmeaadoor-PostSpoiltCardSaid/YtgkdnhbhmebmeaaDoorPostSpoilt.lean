import Derived.Test.YtgkdnhbhmebmeaaDoorPostSizes
import Derived.Test.YtgkdnhbhmebmeaaDoorPostKept
import Derived.Test.YtgkdnhbhmebmeaaDoorSeaF
import Derived.Test.YtgkdnhbhmebmeaaDoorPlain1
/-! PostSpoilt: a message's bytes, with bytes within four changed, behind the sum or in it, are none. -/
namespace Go.Proofs.YtgkdnhbhmebmeaaDoor
open Go.RowKit Go.Cov
theorem u32_of {n : Int} (h : 0 ≤ n ∧ n < 4294967296) : ∃ b : BitVec 32, n = b.toNat := by
  refine ⟨BitVec.ofNat 32 n.toNat, ?_⟩
  rw [BitVec.toNat_ofNat]
  omega
theorem readS_spoilt {l : List UInt8} (h : openE l = 21) : readS l = (zeroM, 21) := by
  unfold readS; rw [h, if_neg (by decide)]
/-- wherever they are changed -/
theorem spoilt_all {l : List UInt8} {b : BitVec 32} (hb : b ≠ 0#32) {T : Nat} (hT : T = 0 ∨ ∃ t, T = 4 + t ∧ t + 4 ≤ l.length) : readS (stir (sealed l) T b 4) = (zeroM, 21) := by
  rcases hT with rfl | ⟨t, rfl, ht⟩
  · exact readS_spoilt (by rw [spoilt_in, if_neg hb])
  · exact readS_spoilt (spoilt_behind l t ht b hb).1
theorem xor_b (a b : UInt8) : bits .xor .u8 (a.toNat : Int) (b.toNat : Int) = ((a ^^^ b).toNat : Int) := by
  show IntKind.u8.wrap ((BitVec.ofInt 8 (a.toNat : Int) ^^^ BitVec.ofInt 8 (b.toNat : Int)).toNat : Int) = _
  have e : ∀ x : UInt8, BitVec.ofInt 8 (x.toNat : Int) = x.toBitVec := by
    intro x
    apply BitVec.eq_of_toNat_eq
    simp
  rw [e, e, UInt8.toNat, UInt8.toBitVec_xor]
  have := (a.toBitVec ^^^ b.toBitVec).isLt
  simp only [IntKind.wrap, IntKind.signed, IntKind.bits]
  generalize (a.toBitVec ^^^ b.toBitVec).toNat = n at this
  simp
  omega
set_option maxRecDepth 100000 in
set_option maxHeartbeats 6400000 in
theorem spoilt_law (o : Ma) {w : World} (ho : MaRd w o) (_io : intM o.data) (ht : Tab w) (n1 n2 : Int) (h1 : 0 ≤ n1 ∧ n1 < 65536) (h2 : 0 ≤ n2 ∧ n2 < 4294967296) :
    Calls Tryd.prog 6 #[o.val, .int .u16 n1, .int .u32 n2] w fun e w' => e = .returned (.bool true) ∧ Below w.heap.size w w' := by
  have hov : o.val = .agg #[.int .i64 o.n.1, .int .i64 o.n.2.1, .int .i64 o.n.2.2.1, .int .i64 o.n.2.2.2.1, .int .i64 o.n.2.2.2.2.1, .int .i64 o.n.2.2.2.2.2.1, .int .i64 o.n.2.2.2.2.2.2.1, .int .i64 o.n.2.2.2.2.2.2.2.1, .int .i64 o.n.2.2.2.2.2.2.2.2.1, .int .i64 o.n.2.2.2.2.2.2.2.2.2, .slice o.bA o.b.length o.bc, .bool o.has, .int .i64 o.st, .slice o.eA o.es.length o.ec, .slice o.kA o.chk.length o.kc] := rfl
  have KG := great_any o
  have KP := fun W (hW : MaRd W o) (tW : Tab W) => putmsg_any o hW tW
  have KR := fun W (hW : MaRd W o) => pright_any hW
  rw [hov] at KG KP KR
  rw [hov]
  clear hov
  have b0 := below_alloc w (.cells #[.int .i64 o.n.1, .int .i64 o.n.2.1, .int .i64 o.n.2.2.1, .int .i64 o.n.2.2.2.1, .int .i64 o.n.2.2.2.2.1, .int .i64 o.n.2.2.2.2.2.1, .int .i64 o.n.2.2.2.2.2.2.1, .int .i64 o.n.2.2.2.2.2.2.2.1, .int .i64 o.n.2.2.2.2.2.2.2.2.1, .int .i64 o.n.2.2.2.2.2.2.2.2.2, .slice o.bA o.b.length o.bc, .bool o.has, .int .i64 o.st, .slice o.eA o.es.length o.ec, .slice o.kA o.chk.length o.kc] 28)
  have R0 := Row.new w [.int .i64 o.n.1, .int .i64 o.n.2.1, .int .i64 o.n.2.2.1, .int .i64 o.n.2.2.2.1, .int .i64 o.n.2.2.2.2.1, .int .i64 o.n.2.2.2.2.2.1, .int .i64 o.n.2.2.2.2.2.2.1, .int .i64 o.n.2.2.2.2.2.2.2.1, .int .i64 o.n.2.2.2.2.2.2.2.2.1, .int .i64 o.n.2.2.2.2.2.2.2.2.2, .slice o.bA o.b.length o.bc, .bool o.has, .int .i64 o.st, .slice o.eA o.es.length o.ec, .slice o.kA o.chk.length o.kc] 28
  obtain ⟨gr, hgr⟩ : ∃ g, greatB o = g := ⟨_, rfl⟩
  rw [hgr] at KG
  replace hgr := hid hgr
  replace KG := hid KG
  replace KP := hid KP
  replace KR := hid KR
  obtain ⟨bm, rfl⟩ := u32_of h2
  go_enter Tryd.func6, Tryd.ntmps6
  go_upto_region 1 with fail
  change Row (w.alloc (.cells #[.int .i64 o.n.1, .int .i64 o.n.2.1, .int .i64 o.n.2.2.1, .int .i64 o.n.2.2.2.1, .int .i64 o.n.2.2.2.2.1, .int .i64 o.n.2.2.2.2.2.1, .int .i64 o.n.2.2.2.2.2.2.1, .int .i64 o.n.2.2.2.2.2.2.2.1, .int .i64 o.n.2.2.2.2.2.2.2.2.1, .int .i64 o.n.2.2.2.2.2.2.2.2.2, .slice o.bA o.b.length o.bc, .bool o.has, .int .i64 o.st, .slice o.eA o.es.length o.ec, .slice o.kA o.chk.length o.kc] 28)) _ _ at R0
  generalize w.alloc (.cells #[.int .i64 o.n.1, .int .i64 o.n.2.1, .int .i64 o.n.2.2.1, .int .i64 o.n.2.2.2.1, .int .i64 o.n.2.2.2.2.1, .int .i64 o.n.2.2.2.2.2.1, .int .i64 o.n.2.2.2.2.2.2.1, .int .i64 o.n.2.2.2.2.2.2.2.1, .int .i64 o.n.2.2.2.2.2.2.2.2.1, .int .i64 o.n.2.2.2.2.2.2.2.2.2, .slice o.bA o.b.length o.bc, .bool o.has, .int .i64 o.st, .slice o.eA o.es.length o.ec, .slice o.kA o.chk.length o.kc] 28) = w1 at b0 R0 ⊢
  replace ho := ho.below b0
  replace ht := ht.below b0
  go_wp2_with fail
  refine (head_any w1 ht).mono ?_
  rintro e w2 ⟨rfl, hb⟩
  replace b0 := below_step b0 hb
  replace R0 := R0.below hb
  replace ho := ho.below hb
  replace ht := ht.below hb
  have C0 := (R0.2 0 _ rfl).1
  have C1 := (R0.2 1 _ rfl).1
  have C2 := (R0.2 2 _ rfl).1
  have C3 := (R0.2 3 _ rfl).1
  have C4 := (R0.2 4 _ rfl).1
  have C5 := (R0.2 5 _ rfl).1
  have C6 := (R0.2 6 _ rfl).1
  have C7 := (R0.2 7 _ rfl).1
  have C8 := (R0.2 8 _ rfl).1
  have C9 := (R0.2 9 _ rfl).1
  have C10 := (R0.2 10 _ rfl).1
  have C11 := (R0.2 11 _ rfl).1
  have C12 := (R0.2 12 _ rfl).1
  have C13 := (R0.2 13 _ rfl).1
  have C14 := (R0.2 14 _ rfl).1
  go_wp2_with fail
  refine (KG.out w2).mono ?_
  rintro e w3 ⟨rfl, hb⟩
  clear C0 C1 C2 C3 C4 C5 C6 C7 C8 C9 C10 C11 C12 C13 C14
  replace b0 := below_step b0 hb
  replace R0 := R0.below hb
  replace ho := ho.below hb
  replace ht := ht.below hb
  clear KG
  cases gr
  case true =>
    go_wp2_with fail
    go_ret
    exact ⟨rfl, b0⟩
  obtain ⟨g1, g2, g3⟩ := greatB_no hgr.out
  by_cases hbm : bm = 0#32
  case pos =>
    subst hbm
    go_wp2_with fail
    go_ret
    exact ⟨rfl, b0⟩
  have hb1 : ((bm.toNat : Int) == 0) = false := by
    rw [beq_eq_false_iff_ne]; intro h; apply hbm; apply BitVec.eq_of_toNat_eq; simp; omega
  replace hbm := hid hbm
  have C0 := (R0.2 0 _ rfl).1
  have C1 := (R0.2 1 _ rfl).1
  have C2 := (R0.2 2 _ rfl).1
  have C3 := (R0.2 3 _ rfl).1
  have C4 := (R0.2 4 _ rfl).1
  have C5 := (R0.2 5 _ rfl).1
  have C6 := (R0.2 6 _ rfl).1
  have C7 := (R0.2 7 _ rfl).1
  have C8 := (R0.2 8 _ rfl).1
  have C9 := (R0.2 9 _ rfl).1
  have C10 := (R0.2 10 _ rfl).1
  have C11 := (R0.2 11 _ rfl).1
  have C12 := (R0.2 12 _ rfl).1
  have C13 := (R0.2 13 _ rfl).1
  have C14 := (R0.2 14 _ rfl).1
  cases hR : rightM o.data
  case false =>
    have K := KP.out w3 ho ht
    rw [bytesM_no hR] at K
    replace hR := hid hR
    dsimp only [List.length_nil] at K
    go_wp2_with fail
    refine K.mono ?_
    rintro e w4 ⟨v4, rfl, own4, hb⟩
    replace b0 := below_step b0 hb
    obtain ⟨A4, c4, rfl, _⟩ := own_shape own4
    clear C0 C1 C2 C3 C4 C5 C6 C7 C8 C9 C10 C11 C12 C13 C14
    go_wp2_with fail
    go_ret
    exact ⟨rfl, b0⟩
  obtain ⟨r1, r2, r3, r4⟩ : o.b.length ≤ 8192 ∧ o.chk.length ≤ 65536 ∧ o.es.length ≤ 64 ∧ ∀ x ∈ o.es.map En.data, x.2.2.length ≤ 8192 := rightM_len hR
  have K := KP.out w3 ho ht
  rw [bytesM_ok hR] at K
  replace hR := hid hR
  dsimp only at K
  obtain ⟨N, hN⟩ : ∃ N, N = (sealed (putM o.data)).length := ⟨_, rfl⟩
  have hN1 : N = 4 + (putM o.data).length := by rw [hN, sealed_length]
  have hN2 : 109 ≤ N ∧ N ≤ 1000000 := by
    have := entsN_all o
    have h3 : entsN o.es o.es.length ≤ 8212 * 64 := by
      have := entsB_le (o.es.map En.data) r4 o.es.length
      unfold entsN; omega
    omega
  obtain ⟨T, hT, et1, et2⟩ : ∃ T : Nat, (T + 4 ≤ N) ∧ Hid (n1 % 5 = 0 → T = 0) ∧ Hid (¬ n1 % 5 = 0 → 4 + n1 % ((N : Int) - 7) = (T : Int)) := by
    by_cases h5 : n1 % 5 = 0
    · exact ⟨0, by omega, hid (fun _ => rfl), hid (fun h => absurd h5 h)⟩
    · have q0 : 0 ≤ n1 % ((N : Int) - 7) := Int.emod_nonneg _ (by omega)
      have q1 : n1 % ((N : Int) - 7) < (N : Int) - 7 := Int.emod_lt_of_pos _ (by omega)
      exact ⟨4 + (n1 % ((N : Int) - 7)).toNat, by omega, hid (fun h => absurd h h5), hid (fun _ => by omega)⟩
  have hTT : Hid (readS (stir (sealed (putM o.data)) T bm 4) = (zeroM, 21)) := hid (spoilt_all hbm.out (by
    by_cases h5 : n1 % 5 = 0
    · exact .inl (et1.out h5)
    · refine .inr ⟨T - 4, ?_, by omega⟩
      have := et2.out h5
      have q0 : 0 ≤ n1 % ((N : Int) - 7) := Int.emod_nonneg _ (by omega)
      omega))
  have hsl := hid (stir_length (sealed (putM o.data)) T bm)
  rw [← hN] at K
  replace hN := hid hN
  replace hN1 := hid hN1
  generalize sealed (putM o.data) = lb at K hN hTT hsl
  have b03 := hid b0
  have ht3 := hid ht
  go_wp2_with fail
  refine K.mono ?_
  rintro e w4 ⟨v4, rfl, own4, hb⟩
  clear C0 C1 C2 C3 C4 C5 C6 C7 C8 C9 C10 C11 C12 C13 C14
  clear K
  replace b0 := below_step b0 hb
  replace R0 := R0.below hb
  replace ht := ht.below hb
  have hb4 := hb
  clear hb
  obtain ⟨A2, c2, rfl, hc2, _⟩ := own_shape own4
  obtain ⟨g, rfl⟩ : ∃ g, A2 = some ⟨g, 0, none⟩ := by
    rcases own4.2 with ⟨hv, hn⟩ | ⟨g, cap, cur, hv, _⟩
    · omega
    · injection hv with hv; exact ⟨g, hv⟩
  have hgz := (own_lt own4 (k := g) rfl)
  have jn : decide ((N : Int) < 8) = false := decide_eq_false (by omega)
  have jw : IntKind.i64.wrap ((N : Int) - 7) = (N : Int) - 7 := wrap_of _ (by omega) (by omega)
  have m0 : 0 ≤ n1 % ((N : Int) - 7) := Int.emod_nonneg _ (by omega)
  have m1 : n1 % ((N : Int) - 7) < (N : Int) - 7 := Int.emod_lt_of_pos _ (by omega)
  go_upto_if 48 with fail
  go_cut [10] (fun s10 wx => s10 = .int .i64 (T : Int) ∧ wx = w4)
  case first =>
    by_cases h5 : n1 % 5 = 0
    · have j5 : (n1 % 5 == 0) = true := by simp [h5]
      replace h5 := hid h5
      go_wp2_with fail
      go_meet
      exact ⟨by rw [et1.out h5.out]; rfl, rfl⟩
    · have j5 : (n1 % 5 == 0) = false := by simp [h5]
      replace h5 := hid h5
      go_wp2_with fail
      go_meet
      exact ⟨by rw [← et2.out h5.out], rfl⟩
  case rest =>
  obtain ⟨rfl, rfl⟩ := hcut
  clear jn jw m0 m1
  go_wp2_with fail
  go_loopw [11] (fun i W => ∃ (k : Nat) (xs : List UInt8), k ≤ 4 ∧ i = .int .i64 k ∧ xs.length = N ∧ xs = stir lb T bm k ∧ W.ownsRow w3.heap.size 5 1 (.slice (some ⟨g, 0, none⟩) N c2) N (xs.map byt) ∧ wc.grownBy W (some g)) (fun i _ => 4 - (RowKit.intOf i).toNat)
  case atStart => exact ⟨0, lb, by omega, rfl, hN.out.symm, rfl, own4, World.grownBy.refl _ _⟩
  case round =>
    obtain ⟨k, xs, hk, rfl, hxl, hxs, hown', hg⟩ := hrel
    rcases (show k = 0 ∨ k = 1 ∨ k = 2 ∨ k = 3 ∨ k = 4 by omega) with rfl | rfl | rfl | rfl | rfl
    · -- step 0
      obtain ⟨P, hP, hPl, ew⟩ : ∃ P : Nat, Hid (P = T + 0) ∧ P < N ∧ Hid (IntKind.i64.wrap (((T : Nat) : Int)) = (P : Int)) := ⟨T + 0, hid rfl, by omega, hid (by simp [IntKind.wrap, IntKind.signed, IntKind.bits]; omega)⟩
      have hx : (xs.map byt)[P]? = some (byt (xs.getD (P) 0)) := by
        rw [List.getElem?_map, List.getElem?_eq_getElem (by omega), List.getD_eq_getElem?_getD, List.getElem?_eq_getElem (by omega)]; rfl
      have hck : wr.cell? ⟨g, P, none⟩ = some (.int .u8 (xs.getD (P) 0).toNat) := by
        rw [hown'.cellAt (P) (by omega), hx]; rfl
      generalize hX : xs.getD (P) 0 = X at hck
      have hX' := hid hX
      clear hX hx
      obtain ⟨Y, hY, ey⟩ : ∃ Y, Hid (Y = Crc.byteOf bm 0) ∧ (bm.toNat : Int) % 256 = (Y.toNat : Int) := ⟨_, hid rfl, by rw [byteOf_int]; simp only [Nat.mul_zero, Int.pow_zero, Int.ediv_one]⟩
      obtain ⟨Z, hZ, ez⟩ : ∃ Z, Hid (Z = X ^^^ Y) ∧ bits .xor .u8 (X.toNat : Int) (Y.toNat : Int) = (Z.toNat : Int) := ⟨_, hid rfl, xor_b X Y⟩
      replace hxl := hid hxl
      replace hxs := hid hxs
      go_wp2_with fail
      have hownd := own_below hown' ((Below.refl _ _).drew)
      replace hck : wr.drew.cell? ⟨g, P, none⟩ = some (.int .u8 X.toNat) := hck
      have hgd : wc.grownBy wr.drew (some g) := grown_drew hg
      have q1 : ((P : Int) < (N : Int)) := by omega
      have ek : IntKind.i64.wrap 0 = 0 := by rfl
      have q3 : (0 : Int) ≤ ((P : Nat) : Int) := by omega
      have ew2 := ew.out
      go_still_tail 17, (by kernel_rfl)
      clear ew2
      change wpList _ _ _ _ _ wr.drew
      generalize wr.drew = wd at *
      obtain ⟨b1, b2⟩ := hownd.stored (P) (byt Z)
      have hfk := hownd.frozenAt (P)
      go_wp2_with fail
      go_roundw
      case rel => exact ⟨1, xs.set (P) Z, by omega, by go_num, by rw [List.length_set]; exact hxl.out, by rw [stir, ← hxs.out, ← hP.out, hX'.out, ← hY.out, ← hZ.out], by rw [List.map_set]; exact b1, grown_after hgd b2 (fun j hj => .inr rfl)⟩
      case measure => simp [RowKit.intOf]
    · -- step 1
      obtain ⟨P, hP, hPl, ew⟩ : ∃ P : Nat, Hid (P = T + 1) ∧ P < N ∧ Hid (IntKind.i64.wrap (((T : Nat) : Int) + 1) = (P : Int)) := ⟨T + 1, hid rfl, by omega, hid (by simp [IntKind.wrap, IntKind.signed, IntKind.bits]; omega)⟩
      have hx : (xs.map byt)[P]? = some (byt (xs.getD (P) 0)) := by
        rw [List.getElem?_map, List.getElem?_eq_getElem (by omega), List.getD_eq_getElem?_getD, List.getElem?_eq_getElem (by omega)]; rfl
      have hck : wr.cell? ⟨g, P, none⟩ = some (.int .u8 (xs.getD (P) 0).toNat) := by
        rw [hown'.cellAt (P) (by omega), hx]; rfl
      generalize hX : xs.getD (P) 0 = X at hck
      have hX' := hid hX
      clear hX hx
      obtain ⟨Y, hY, ey⟩ : ∃ Y, Hid (Y = Crc.byteOf bm 1) ∧ (bm.toNat : Int) / 256 % 256 = (Y.toNat : Int) := ⟨_, hid rfl, by rw [byteOf_int]; simp only [Nat.reduceMul, Int.reducePow]⟩
      obtain ⟨Z, hZ, ez⟩ : ∃ Z, Hid (Z = X ^^^ Y) ∧ bits .xor .u8 (X.toNat : Int) (Y.toNat : Int) = (Z.toNat : Int) := ⟨_, hid rfl, xor_b X Y⟩
      replace hxl := hid hxl
      replace hxs := hid hxs
      go_wp2_with fail
      have hownd := own_below hown' ((Below.refl _ _).drew)
      replace hck : wr.drew.cell? ⟨g, P, none⟩ = some (.int .u8 X.toNat) := hck
      have hgd : wc.grownBy wr.drew (some g) := grown_drew hg
      have q1 : ((P : Int) < (N : Int)) := by omega
      have ek : IntKind.i64.wrap 8 = 8 := by rfl
      have q3 : (0 : Int) ≤ ((P : Nat) : Int) := by omega
      have ew2 := ew.out
      go_still_tail 17, (by kernel_rfl)
      clear ew2
      change wpList _ _ _ _ _ wr.drew
      generalize wr.drew = wd at *
      obtain ⟨b1, b2⟩ := hownd.stored (P) (byt Z)
      have hfk := hownd.frozenAt (P)
      go_wp2_with fail
      go_roundw
      case rel => exact ⟨2, xs.set (P) Z, by omega, by go_num, by rw [List.length_set]; exact hxl.out, by rw [stir, ← hxs.out, ← hP.out, hX'.out, ← hY.out, ← hZ.out], by rw [List.map_set]; exact b1, grown_after hgd b2 (fun j hj => .inr rfl)⟩
      case measure => simp [RowKit.intOf]
    · -- step 2
      obtain ⟨P, hP, hPl, ew⟩ : ∃ P : Nat, Hid (P = T + 2) ∧ P < N ∧ Hid (IntKind.i64.wrap (((T : Nat) : Int) + 2) = (P : Int)) := ⟨T + 2, hid rfl, by omega, hid (by simp [IntKind.wrap, IntKind.signed, IntKind.bits]; omega)⟩
      have hx : (xs.map byt)[P]? = some (byt (xs.getD (P) 0)) := by
        rw [List.getElem?_map, List.getElem?_eq_getElem (by omega), List.getD_eq_getElem?_getD, List.getElem?_eq_getElem (by omega)]; rfl
      have hck : wr.cell? ⟨g, P, none⟩ = some (.int .u8 (xs.getD (P) 0).toNat) := by
        rw [hown'.cellAt (P) (by omega), hx]; rfl
      generalize hX : xs.getD (P) 0 = X at hck
      have hX' := hid hX
      clear hX hx
      obtain ⟨Y, hY, ey⟩ : ∃ Y, Hid (Y = Crc.byteOf bm 2) ∧ (bm.toNat : Int) / 65536 % 256 = (Y.toNat : Int) := ⟨_, hid rfl, by rw [byteOf_int]; simp only [Nat.reduceMul, Int.reducePow]⟩
      obtain ⟨Z, hZ, ez⟩ : ∃ Z, Hid (Z = X ^^^ Y) ∧ bits .xor .u8 (X.toNat : Int) (Y.toNat : Int) = (Z.toNat : Int) := ⟨_, hid rfl, xor_b X Y⟩
      replace hxl := hid hxl
      replace hxs := hid hxs
      go_wp2_with fail
      have hownd := own_below hown' ((Below.refl _ _).drew)
      replace hck : wr.drew.cell? ⟨g, P, none⟩ = some (.int .u8 X.toNat) := hck
      have hgd : wc.grownBy wr.drew (some g) := grown_drew hg
      have q1 : ((P : Int) < (N : Int)) := by omega
      have ek : IntKind.i64.wrap 16 = 16 := by rfl
      have q3 : (0 : Int) ≤ ((P : Nat) : Int) := by omega
      have ew2 := ew.out
      go_still_tail 17, (by kernel_rfl)
      clear ew2
      change wpList _ _ _ _ _ wr.drew
      generalize wr.drew = wd at *
      obtain ⟨b1, b2⟩ := hownd.stored (P) (byt Z)
      have hfk := hownd.frozenAt (P)
      go_wp2_with fail
      go_roundw
      case rel => exact ⟨3, xs.set (P) Z, by omega, by go_num, by rw [List.length_set]; exact hxl.out, by rw [stir, ← hxs.out, ← hP.out, hX'.out, ← hY.out, ← hZ.out], by rw [List.map_set]; exact b1, grown_after hgd b2 (fun j hj => .inr rfl)⟩
      case measure => simp [RowKit.intOf]
    · -- step 3
      obtain ⟨P, hP, hPl, ew⟩ : ∃ P : Nat, Hid (P = T + 3) ∧ P < N ∧ Hid (IntKind.i64.wrap (((T : Nat) : Int) + 3) = (P : Int)) := ⟨T + 3, hid rfl, by omega, hid (by simp [IntKind.wrap, IntKind.signed, IntKind.bits]; omega)⟩
      have hx : (xs.map byt)[P]? = some (byt (xs.getD (P) 0)) := by
        rw [List.getElem?_map, List.getElem?_eq_getElem (by omega), List.getD_eq_getElem?_getD, List.getElem?_eq_getElem (by omega)]; rfl
      have hck : wr.cell? ⟨g, P, none⟩ = some (.int .u8 (xs.getD (P) 0).toNat) := by
        rw [hown'.cellAt (P) (by omega), hx]; rfl
      generalize hX : xs.getD (P) 0 = X at hck
      have hX' := hid hX
      clear hX hx
      obtain ⟨Y, hY, ey⟩ : ∃ Y, Hid (Y = Crc.byteOf bm 3) ∧ (bm.toNat : Int) / 16777216 % 256 = (Y.toNat : Int) := ⟨_, hid rfl, by rw [byteOf_int]; simp only [Nat.reduceMul, Int.reducePow]⟩
      obtain ⟨Z, hZ, ez⟩ : ∃ Z, Hid (Z = X ^^^ Y) ∧ bits .xor .u8 (X.toNat : Int) (Y.toNat : Int) = (Z.toNat : Int) := ⟨_, hid rfl, xor_b X Y⟩
      have ey3 : (bm.toNat : Int) / 16777216 = (Y.toNat : Int) := by rw [← ey]; have := bm.isLt; omega
      replace hxl := hid hxl
      replace hxs := hid hxs
      go_wp2_with fail
      have hownd := own_below hown' ((Below.refl _ _).drew)
      replace hck : wr.drew.cell? ⟨g, P, none⟩ = some (.int .u8 X.toNat) := hck
      have hgd : wc.grownBy wr.drew (some g) := grown_drew hg
      have q1 : ((P : Int) < (N : Int)) := by omega
      have ek : IntKind.i64.wrap 24 = 24 := by rfl
      have q3 : (0 : Int) ≤ ((P : Nat) : Int) := by omega
      have ew2 := ew.out
      go_still_tail 17, (by kernel_rfl)
      clear ew2
      change wpList _ _ _ _ _ wr.drew
      generalize wr.drew = wd at *
      obtain ⟨b1, b2⟩ := hownd.stored (P) (byt Z)
      have hfk := hownd.frozenAt (P)
      go_wp2_with fail
      go_roundw
      case rel => exact ⟨4, xs.set (P) Z, by omega, by go_num, by rw [List.length_set]; exact hxl.out, by rw [stir, ← hxs.out, ← hP.out, hX'.out, ← hY.out, ← hZ.out], by rw [List.map_set]; exact b1, grown_after hgd b2 (fun j hj => .inr rfl)⟩
      case measure => simp [RowKit.intOf]
    · -- behind
      have hbr : Below w3.heap.size w3 wr := hb4.grown hg hb4.size (by intro k hk; cases hk; exact hgz.1)
      have hr := own_rd hown'
      have K := getmsg_any (w := wr) (c := c2) (l := stir lb T bm 4) (by rw [← hxs]; exact hr) (by rw [← hxs, hxl]; exact hc2) (by rw [← hxs, hxl]; omega) (ht3.out.below hbr)
      rw [hTT.out, ← hxs, hxl] at K
      have b0 := below_step b03.out hbr
      replace K := hid K
      clear hxs hr hown' hg hgz
      go_wp2_with fail
      refine K.out.mono ?_
      rintro e w6 ⟨o6, rfl, hod, hor, hb6⟩
      clear K
      have hov : o6.val = .agg #[.int .i64 o6.n.1, .int .i64 o6.n.2.1, .int .i64 o6.n.2.2.1, .int .i64 o6.n.2.2.2.1, .int .i64 o6.n.2.2.2.2.1, .int .i64 o6.n.2.2.2.2.2.1, .int .i64 o6.n.2.2.2.2.2.2.1, .int .i64 o6.n.2.2.2.2.2.2.2.1, .int .i64 o6.n.2.2.2.2.2.2.2.2.1, .int .i64 o6.n.2.2.2.2.2.2.2.2.2, .slice o6.bA o6.b.length o6.bc, .bool o6.has, .int .i64 o6.st, .slice o6.eA o6.es.length o6.ec, .slice o6.kA o6.chk.length o6.kc] := rfl
      have KS := fun W (hW : MaRd W o6) hz => msame_any o6 zeroMa hW (zeroMa_rd W) hz
      rw [hov, zeroMa_val] at KS
      rw [hov]
      clear hov
      replace KS := hid KS
      have b7 := below_alloc w6 (.cells #[.int .i64 o6.n.1, .int .i64 o6.n.2.1, .int .i64 o6.n.2.2.1, .int .i64 o6.n.2.2.2.1, .int .i64 o6.n.2.2.2.2.1, .int .i64 o6.n.2.2.2.2.2.1, .int .i64 o6.n.2.2.2.2.2.2.1, .int .i64 o6.n.2.2.2.2.2.2.2.1, .int .i64 o6.n.2.2.2.2.2.2.2.2.1, .int .i64 o6.n.2.2.2.2.2.2.2.2.2, .slice o6.bA o6.b.length o6.bc, .bool o6.has, .int .i64 o6.st, .slice o6.eA o6.es.length o6.ec, .slice o6.kA o6.chk.length o6.kc] 28)
      have R7 := Row.new w6 [.int .i64 o6.n.1, .int .i64 o6.n.2.1, .int .i64 o6.n.2.2.1, .int .i64 o6.n.2.2.2.1, .int .i64 o6.n.2.2.2.2.1, .int .i64 o6.n.2.2.2.2.2.1, .int .i64 o6.n.2.2.2.2.2.2.1, .int .i64 o6.n.2.2.2.2.2.2.2.1, .int .i64 o6.n.2.2.2.2.2.2.2.2.1, .int .i64 o6.n.2.2.2.2.2.2.2.2.2, .slice o6.bA o6.b.length o6.bc, .bool o6.has, .int .i64 o6.st, .slice o6.eA o6.es.length o6.ec, .slice o6.kA o6.chk.length o6.kc] 28
      replace b7 := hid b7
      replace R7 := hid R7
      replace hod := hid hod
      go_upto_region 15 with fail
      replace b7 := b7.out
      replace R7 := R7.out
      change Row (w6.alloc (.cells #[.int .i64 o6.n.1, .int .i64 o6.n.2.1, .int .i64 o6.n.2.2.1, .int .i64 o6.n.2.2.2.1, .int .i64 o6.n.2.2.2.2.1, .int .i64 o6.n.2.2.2.2.2.1, .int .i64 o6.n.2.2.2.2.2.2.1, .int .i64 o6.n.2.2.2.2.2.2.2.1, .int .i64 o6.n.2.2.2.2.2.2.2.2.1, .int .i64 o6.n.2.2.2.2.2.2.2.2.2, .slice o6.bA o6.b.length o6.bc, .bool o6.has, .int .i64 o6.st, .slice o6.eA o6.es.length o6.ec, .slice o6.kA o6.chk.length o6.kc] 28)) _ _ at R7
      generalize w6.alloc (.cells #[.int .i64 o6.n.1, .int .i64 o6.n.2.1, .int .i64 o6.n.2.2.1, .int .i64 o6.n.2.2.2.1, .int .i64 o6.n.2.2.2.2.1, .int .i64 o6.n.2.2.2.2.2.1, .int .i64 o6.n.2.2.2.2.2.2.1, .int .i64 o6.n.2.2.2.2.2.2.2.1, .int .i64 o6.n.2.2.2.2.2.2.2.2.1, .int .i64 o6.n.2.2.2.2.2.2.2.2.2, .slice o6.bA o6.b.length o6.bc, .bool o6.has, .int .i64 o6.st, .slice o6.eA o6.es.length o6.ec, .slice o6.kA o6.chk.length o6.kc] 28) = w7 at b7 R7 ⊢
      have hor7 := hor.below b7
      have hz : o6.es.length ≤ 100000 := by
        have : o6.es.map En.data = [] := congrArg (fun m : MD => m.2.2.2.2.1) hod.out
        have := congrArg List.length this
        simp at this
        rw [this]; simp
      have K := KS.out w7 hor7 hz
      rw [show sameM o6.data zeroMa.data = true from sameM_iff.2 hod.out] at K
      have D0 := (R7.2 0 _ rfl).1
      have D1 := (R7.2 1 _ rfl).1
      have D2 := (R7.2 2 _ rfl).1
      have D3 := (R7.2 3 _ rfl).1
      have D4 := (R7.2 4 _ rfl).1
      have D5 := (R7.2 5 _ rfl).1
      have D6 := (R7.2 6 _ rfl).1
      have D7 := (R7.2 7 _ rfl).1
      have D8 := (R7.2 8 _ rfl).1
      have D9 := (R7.2 9 _ rfl).1
      have D10 := (R7.2 10 _ rfl).1
      have D11 := (R7.2 11 _ rfl).1
      have D12 := (R7.2 12 _ rfl).1
      have D13 := (R7.2 13 _ rfl).1
      have D14 := (R7.2 14 _ rfl).1
      replace b0 := below_step (below_step b0 hb6) b7
      go_wp2_with fail
      refine K.mono ?_
      rintro e w8 ⟨rfl, hb8⟩
      replace b0 := below_step b0 hb8
      clear D0 D1 D2 D3 D4 D5 D6 D7 D8 D9 D10 D11 D12 D13 D14
      go_wp2_with fail
      go_ret
      exact ⟨rfl, b0⟩
end Go.Proofs.YtgkdnhbhmebmeaaDoor
