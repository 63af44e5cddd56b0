import Derived.Test.YtoceipdkmafagaaOpS
import Derived.Test.YtoceipdkmafagaaOpHead
import Derived.Test.YtoceipdkmafagaaOpR
/-! OpBack: a right operation's bytes are read as it was, and unlike ones have unlike bytes; so it is with replies. -/
namespace Go.Proofs.Ytoceipdkmafagaa
open Go.RowKit Go.Cov
theorem putO_inj {o p : OD} (ho : rightO o = true) (hp : rightO p = true) (io : intO o) (ip : intO p) : sameO o p = decide (putO o = putO p) := by
  by_cases h : o = p
  · rw [h, sameO_iff.2 rfl, decide_eq_true rfl]
  · have h1 : putO o ≠ putO p := fun e => h (by
      have h2 := op_back ho io
      rw [e, op_back hp ip] at h2
      exact (Prod.mk.inj h2).1.symm)
    rw [decide_eq_false h1]
    cases hs : sameO o p
    · rfl
    · exact absurd (sameO_iff.1 hs) h
theorem putR_inj {o p : RD} (ho : rightR o = true) (hp : rightR p = true) (io : intR o) (ip : intR p) : sameR o p = decide (putR o = putR p) := by
  by_cases h : o = p
  · rw [h, sameR_iff.2 rfl, decide_eq_true rfl]
  · have h1 : putR o ≠ putR p := fun e => h (by
      have h2 := reply_back ho io
      rw [e, reply_back hp ip] at h2
      exact (Prod.mk.inj h2).1.symm)
    rw [decide_eq_false h1]
    cases hs : sameR o p
    · rfl
    · exact absurd (sameR_iff.1 hs) h
theorem putO_le {o : OD} (h : rightO o = true) : (putO o).length ≤ 100000 := by
  rw [putO_len]
  unfold rightO at h
  rw [Bool.and_eq_true] at h
  have h1 := of_decide_eq_true h.1
  have h2 := valsB_le o.2.2.2.2.1 (fun x hx => by
    have := List.all_eq_true.1 h.2 x hx
    unfold argOk at this
    rw [Bool.and_eq_true] at this
    exact plain_le this.2) o.2.2.2.2.1.length
  rw [List.take_length] at h2
  omega
theorem putR_le {r : RD} (h : rightR r = true) : (putR r).length ≤ 100000 := by
  rw [putR_len]
  unfold rightR at h
  rw [Bool.and_eq_true] at h
  have h1 := plain_le h.1
  have h2 := of_decide_eq_true h.2
  omega
set_option maxRecDepth 100000 in
set_option maxHeartbeats 25600000 in
theorem back_law (o p : Oa) (r s : Ra) {w : World} (ho : OaOwn w o) (hp : OaOwn w p) (hr : RaRd w r) (hs : RaRd w s) (io : intO o.data) (ip : intO p.data) (ir : intR r.data) (is : intR s.data) :
    Calls Try.prog 6 #[o.val, p.val, r.val, s.val] w fun e w' => e = .returned (.bool true) ∧ Below w.heap.size w w' := by
  have hov : o.val = .agg #[.int .i64 o.k, .string (str o.n), .slice o.sA o.s.length o.sc, .string (str o.f), .slice o.aA o.a.length o.ac, .int .i64 o.g, .slice o.kA o.key.length o.kc] := rfl
  have hpv : p.val = .agg #[.int .i64 p.k, .string (str p.n), .slice p.sA p.s.length p.sc, .string (str p.f), .slice p.aA p.a.length p.ac, .int .i64 p.g, .slice p.kA p.key.length p.kc] := rfl
  have hrv : r.val = .agg #[.int .i64 r.er, .int .i64 r.pl, .int .i64 r.v.c, .int .i64 r.v.r, .slice r.v.A r.v.op.length r.v.cap, .int .i64 r.tr, .int .i64 r.us, .bool r.fd, .slice r.tA r.t.length r.tc] := rfl
  have hsv : s.val = .agg #[.int .i64 s.er, .int .i64 s.pl, .int .i64 s.v.c, .int .i64 s.v.r, .slice s.v.A s.v.op.length s.v.cap, .int .i64 s.tr, .int .i64 s.us, .bool s.fd, .slice s.tA s.t.length s.tc] := rfl
  have KGo := great_any o
  have KPo := fun W (hW : OaOwn W o) => put_any o hW.rd hW.sc hW.kc
  rw [hov] at KGo KPo
  have KGo := hid KGo
  have KPo := hid KPo
  have KGp := great_any p
  have KPp := fun W (hW : OaOwn W p) => put_any p hW.rd hW.sc hW.kc
  rw [hpv] at KGp KPp
  have KGp := hid KGp
  have KPp := hid KPp
  have KR := fun W (hW : OaOwn W o) => right_any o hW.rd
  rw [hov] at KR
  have KR := hid KR
  have KS := fun W (hW : OaOwn W o) (hW2 : OaOwn W p) => same_any o p hW.rd hW2.rd
  rw [hov, hpv] at KS
  have KS := hid KS
  have KB := fun W (b : Oa) (hW : OaOwn W b) (hW2 : OaOwn W o) => same_any b o hW.rd hW2.rd
  have KB := hid KB
  have KSr := fun W (hW : RaRd W r) (hW2 : RaRd W s) => samereply_any r s hW hW2
  rw [hrv, hsv] at KSr
  have KSr := hid KSr
  have KBr := fun W (b : Ra) (hW : RaRd W b) (hW2 : RaRd W r) => samereply_any b r hW hW2
  have KBr := hid KBr
  have KPr := fun W (hW : RaRd W r) => putreply_any r hW
  rw [hrv] at KPr
  have KPr := hid KPr
  have KPs := fun W (hW : RaRd W s) => putreply_any s hW
  rw [hsv] at KPs
  have KPs := hid KPs
  rw [hov, hpv, hrv, hsv]
  replace hov := hid hov
  replace hrv := hid hrv
  clear hpv hsv
  go_enter Try.func6, Try.ntmps6
  have bx0 := below_alloc w (.cells #[.int .i64 o.k, .string (str o.n), .slice o.sA o.s.length o.sc, .string (str o.f), .slice o.aA o.a.length o.ac, .int .i64 o.g, .slice o.kA o.key.length o.kc] 25)
  have Ro := Row.new w [.int .i64 o.k, .string (str o.n), .slice o.sA o.s.length o.sc, .string (str o.f), .slice o.aA o.a.length o.ac, .int .i64 o.g, .slice o.kA o.key.length o.kc] 25
  obtain ⟨wx0, hwx0⟩ : ∃ W, W = w.alloc (.cells #[.int .i64 o.k, .string (str o.n), .slice o.sA o.s.length o.sc, .string (str o.f), .slice o.aA o.a.length o.ac, .int .i64 o.g, .slice o.kA o.key.length o.kc] 25) := ⟨_, rfl⟩
  have nx0 : wx0.heap.size = w.heap.size + 1 := by rw [hwx0]; simp
  rw [← hwx0] at bx0 Ro
  have bx1 := below_alloc wx0 (.cells #[.int .i64 p.k, .string (str p.n), .slice p.sA p.s.length p.sc, .string (str p.f), .slice p.aA p.a.length p.ac, .int .i64 p.g, .slice p.kA p.key.length p.kc] 25)
  have Rp := Row.new wx0 [.int .i64 p.k, .string (str p.n), .slice p.sA p.s.length p.sc, .string (str p.f), .slice p.aA p.a.length p.ac, .int .i64 p.g, .slice p.kA p.key.length p.kc] 25
  obtain ⟨wx1, hwx1⟩ : ∃ W, W = wx0.alloc (.cells #[.int .i64 p.k, .string (str p.n), .slice p.sA p.s.length p.sc, .string (str p.f), .slice p.aA p.a.length p.ac, .int .i64 p.g, .slice p.kA p.key.length p.kc] 25) := ⟨_, rfl⟩
  have nx1 : wx1.heap.size = wx0.heap.size + 1 := by rw [hwx1]; simp
  rw [← hwx1] at bx1 Rp
  have bx2 := below_alloc wx1 (.cells #[.int .i64 r.er, .int .i64 r.pl, .int .i64 r.v.c, .int .i64 r.v.r, .slice r.v.A r.v.op.length r.v.cap, .int .i64 r.tr, .int .i64 r.us, .bool r.fd, .slice r.tA r.t.length r.tc] 34)
  have Rr := Row.new wx1 [.int .i64 r.er, .int .i64 r.pl, .int .i64 r.v.c, .int .i64 r.v.r, .slice r.v.A r.v.op.length r.v.cap, .int .i64 r.tr, .int .i64 r.us, .bool r.fd, .slice r.tA r.t.length r.tc] 34
  obtain ⟨wx2, hwx2⟩ : ∃ W, W = wx1.alloc (.cells #[.int .i64 r.er, .int .i64 r.pl, .int .i64 r.v.c, .int .i64 r.v.r, .slice r.v.A r.v.op.length r.v.cap, .int .i64 r.tr, .int .i64 r.us, .bool r.fd, .slice r.tA r.t.length r.tc] 34) := ⟨_, rfl⟩
  have nx2 : wx2.heap.size = wx1.heap.size + 1 := by rw [hwx2]; simp
  rw [← hwx2] at bx2 Rr
  have bx3 := below_alloc wx2 (.cells #[.int .i64 s.er, .int .i64 s.pl, .int .i64 s.v.c, .int .i64 s.v.r, .slice s.v.A s.v.op.length s.v.cap, .int .i64 s.tr, .int .i64 s.us, .bool s.fd, .slice s.tA s.t.length s.tc] 34)
  have Rs := Row.new wx2 [.int .i64 s.er, .int .i64 s.pl, .int .i64 s.v.c, .int .i64 s.v.r, .slice s.v.A s.v.op.length s.v.cap, .int .i64 s.tr, .int .i64 s.us, .bool s.fd, .slice s.tA s.t.length s.tc] 34
  replace Ro := ((Ro.below bx1).below bx2).below bx3
  replace Rp := (Rp.below bx2).below bx3
  replace Rr := Rr.below bx3
  rw [nx0] at Rp nx1
  rw [nx1] at Rr nx2
  rw [nx2] at Rs
  go_upto_region 1 with fail
  rw [← hwx0, ← hwx1, ← hwx2]
  clear hwx0 hwx1 hwx2
  generalize wx2.alloc _ = w2 at bx3 Ro Rp Rr Rs ⊢
  have b02 := below_step (below_step (below_step bx0 bx1) bx2) bx3
  clear bx0 bx1 bx2 bx3 nx0 nx1 nx2
  replace ho := ho.below b02
  replace hp := hp.below b02
  replace hr := hr.below b02
  replace hs := hs.below b02
  go_wp2_with fail
  refine (head_any w2).mono ?_
  rintro e w3 ⟨rfl, hb3⟩
  replace b02 := below_step b02 hb3
  replace Ro := Ro.below hb3
  replace Rp := Rp.below hb3
  replace Rr := Rr.below hb3
  replace Rs := Rs.below hb3
  replace ho := ho.below hb3
  replace hp := hp.below hb3
  replace hr := hr.below hb3
  replace hs := hs.below hb3
  have C0 := (Ro.2 0 _ rfl).1
  have C1 := (Ro.2 1 _ rfl).1
  have C2 := (Ro.2 2 _ rfl).1
  have C3 := (Ro.2 3 _ rfl).1
  have C4 := (Ro.2 4 _ rfl).1
  have C5 := (Ro.2 5 _ rfl).1
  have C6 := (Ro.2 6 _ rfl).1
  go_wp2_with fail
  refine (KGo.out w3).mono ?_
  rintro e w4 ⟨gr, rfl, hb4⟩
  replace b02 := below_step b02 hb4
  clear C0 C1 C2 C3 C4 C5 C6
  replace Ro := Ro.below hb4
  replace Rp := Rp.below hb4
  replace Rr := Rr.below hb4
  replace Rs := Rs.below hb4
  replace ho := ho.below hb4
  replace hp := hp.below hb4
  replace hr := hr.below hb4
  replace hs := hs.below hb4
  cases gr
  case true =>
    go_wp2_with fail
    go_ret
    exact ⟨rfl, b02⟩
  have D0 := (Rp.2 0 _ rfl).1
  have D1 := (Rp.2 1 _ rfl).1
  have D2 := (Rp.2 2 _ rfl).1
  have D3 := (Rp.2 3 _ rfl).1
  have D4 := (Rp.2 4 _ rfl).1
  have D5 := (Rp.2 5 _ rfl).1
  have D6 := (Rp.2 6 _ rfl).1
  go_wp2_with fail
  refine (KGp.out w4).mono ?_
  rintro e w4b ⟨gr, rfl, hb4⟩
  replace b02 := below_step b02 hb4
  clear D0 D1 D2 D3 D4 D5 D6
  replace Ro := Ro.below hb4
  replace Rp := Rp.below hb4
  replace Rr := Rr.below hb4
  replace Rs := Rs.below hb4
  replace ho := ho.below hb4
  replace hp := hp.below hb4
  replace hr := hr.below hb4
  replace hs := hs.below hb4
  cases gr
  case true =>
    go_wp2_with fail
    go_ret
    exact ⟨rfl, b02⟩
  have C0 := (Ro.2 0 _ rfl).1
  have C1 := (Ro.2 1 _ rfl).1
  have C2 := (Ro.2 2 _ rfl).1
  have C3 := (Ro.2 3 _ rfl).1
  have C4 := (Ro.2 4 _ rfl).1
  have C5 := (Ro.2 5 _ rfl).1
  have C6 := (Ro.2 6 _ rfl).1
  go_wp2_with fail
  refine (KPo.out w4b ho).mono ?_
  rintro e w5 ⟨v5, rfl, own5, hb5⟩
  replace b02 := below_step b02 hb5
  obtain ⟨A5, c5, rfl, hc5, _⟩ := own_shape own5
  obtain ⟨⟨x5, e5⟩, hq5⟩ : ∃ q, bytesO o.data = q := ⟨_, rfl⟩
  rw [hq5] at own5 hc5 ⊢
  replace hq5 := hid hq5
  dsimp only at own5 hc5 ⊢
  clear C0 C1 C2 C3 C4 C5 C6
  replace Ro := Ro.below hb5
  replace Rp := Rp.below hb5
  replace Rr := Rr.below hb5
  replace Rs := Rs.below hb5
  replace ho := ho.below hb5
  replace hp := hp.below hb5
  replace hr := hr.below hb5
  replace hs := hs.below hb5
  have D0 := (Rp.2 0 _ rfl).1
  have D1 := (Rp.2 1 _ rfl).1
  have D2 := (Rp.2 2 _ rfl).1
  have D3 := (Rp.2 3 _ rfl).1
  have D4 := (Rp.2 4 _ rfl).1
  have D5 := (Rp.2 5 _ rfl).1
  have D6 := (Rp.2 6 _ rfl).1
  go_wp2_with fail
  refine (KPp.out w5 hp).mono ?_
  rintro e w6 ⟨v6, rfl, own6, hb6⟩
  replace b02 := below_step b02 hb6
  obtain ⟨A6, c6, rfl, hc6, _⟩ := own_shape own6
  obtain ⟨⟨x6, e6⟩, hq6⟩ : ∃ q, bytesO p.data = q := ⟨_, rfl⟩
  rw [hq6] at own6 hc6 ⊢
  replace hq6 := hid hq6
  dsimp only at own6 hc6 ⊢
  replace own5 := own_below own5 hb6
  clear D0 D1 D2 D3 D4 D5 D6
  replace Ro := Ro.below hb6
  replace Rp := Rp.below hb6
  replace Rr := Rr.below hb6
  replace Rs := Rs.below hb6
  replace ho := ho.below hb6
  replace hp := hp.below hb6
  replace hr := hr.below hb6
  replace hs := hs.below hb6
  have C0 := (Ro.2 0 _ rfl).1
  have C1 := (Ro.2 1 _ rfl).1
  have C2 := (Ro.2 2 _ rfl).1
  have C3 := (Ro.2 3 _ rfl).1
  have C4 := (Ro.2 4 _ rfl).1
  have C5 := (Ro.2 5 _ rfl).1
  have C6 := (Ro.2 6 _ rfl).1
  go_wp2_with fail
  refine (KR.out w6 ho).mono ?_
  rintro e w7 ⟨rfl, hb7⟩
  replace b02 := below_step b02 hb7
  replace own5 := own_below own5 hb7
  replace own6 := own_below own6 hb7
  clear C0 C1 C2 C3 C4 C5 C6
  replace Ro := Ro.below hb7
  replace Rp := Rp.below hb7
  replace Rr := Rr.below hb7
  replace Rs := Rs.below hb7
  replace ho := ho.below hb7
  replace hp := hp.below hb7
  replace hr := hr.below hb7
  replace hs := hs.below hb7
  have j0 : (e5 == 0) = rightO o.data := by
    have h1 := hq5.out
    cases hR : rightO o.data
    · rw [bytesO_no hR] at h1; rw [← (Prod.mk.inj h1).2]; rfl
    · rw [bytesO_ok hR] at h1; rw [← (Prod.mk.inj h1).2]; rfl
  obtain ⟨ro, hro⟩ : ∃ ro, ro = rightO o.data := ⟨_, rfl⟩
  rw [← hro] at j0 ⊢
  replace hro := hid hro
  go_upto_if 46 with fail
  have b07 := b02
  go_cut [] (fun wx => Below w7.heap.size w7 wx)
  case first =>
    cases ro
    case false =>
      go_wp2_with fail
      go_meet
      exact Below.refl _ _
    case true =>
      have hx5 : x5 = putO o.data := by
        have h1 := hq5.out
        rw [bytesO_ok hro.out.symm] at h1
        exact (Prod.mk.inj h1).1.symm
      have hl5 : x5.length ≤ 100000 := by rw [hx5]; exact putO_le hro.out.symm
      have hrd : readO x5 = (o.data, 0) := by rw [hx5]; exact op_back hro.out.symm io
      replace hx5 := hid hx5
      have KG5 := fun W (hW : Rd W A5 (x5.map byt)) => get_any (c := c5) hW hc5 (by omega)
      rw [hrd] at KG5
      replace KG5 := hid KG5
      clear hrd
      go_wp2_with fail
      refine (KG5.out w7 (own_rd own5)).mono ?_
      rintro e w8 ⟨b, rfl, d8, hb8, hbb⟩
      have b8 := hbb
      have hbv : b.val = .agg #[.int .i64 b.k, .string (str b.n), .slice b.sA b.s.length b.sc, .string (str b.f), .slice b.aA b.a.length b.ac, .int .i64 b.g, .slice b.kA b.key.length b.kc] := rfl
      have bx := below_alloc w8 (.cells #[.int .i64 b.k, .string (str b.n), .slice b.sA b.s.length b.sc, .string (str b.f), .slice b.aA b.a.length b.ac, .int .i64 b.g, .slice b.kA b.key.length b.kc] 25)
      have Rb := Row.new w8 [.int .i64 b.k, .string (str b.n), .slice b.sA b.s.length b.sc, .string (str b.f), .slice b.aA b.a.length b.ac, .int .i64 b.g, .slice b.kA b.key.length b.kc] 25
      rw [hbv]
      go_upto_region 10 with fail
      generalize w8.alloc _ = w9 at bx Rb ⊢
      have b9 := below_step b8 bx
      replace Ro := Ro.below b9
      replace Rp := Rp.below b9
      replace ho := ho.below b9
      replace hp := hp.below b9
      replace hb8 := hb8.below bx
      replace own5 := own_below own5 b9
      replace own6 := own_below own6 b9
      have KB1 := fun W (hW : Below w9.heap.size w9 W) => KB.out W b (hb8.below hW) (ho.below hW)
      rw [d8, sameO_iff.2 rfl, hbv, hov.out] at KB1
      clear d8 hbv KB
      have bcur := (Below.refl w9.heap.size w9).drew
      have kc0 := fun W (hW : Below w9.heap.size w9 W) => cell_on hW (Ro.2 0 _ rfl).1
      have kd0 := fun W (hW : Below w9.heap.size w9 W) => cell_on hW (Rp.2 0 _ rfl).1
      have kb0 := fun W (hW : Below w9.heap.size w9 W) => cell_on hW (Rb.2 0 _ rfl).1
      have kc1 := fun W (hW : Below w9.heap.size w9 W) => cell_on hW (Ro.2 1 _ rfl).1
      have kd1 := fun W (hW : Below w9.heap.size w9 W) => cell_on hW (Rp.2 1 _ rfl).1
      have kb1 := fun W (hW : Below w9.heap.size w9 W) => cell_on hW (Rb.2 1 _ rfl).1
      have kc2 := fun W (hW : Below w9.heap.size w9 W) => cell_on hW (Ro.2 2 _ rfl).1
      have kd2 := fun W (hW : Below w9.heap.size w9 W) => cell_on hW (Rp.2 2 _ rfl).1
      have kb2 := fun W (hW : Below w9.heap.size w9 W) => cell_on hW (Rb.2 2 _ rfl).1
      have kc3 := fun W (hW : Below w9.heap.size w9 W) => cell_on hW (Ro.2 3 _ rfl).1
      have kd3 := fun W (hW : Below w9.heap.size w9 W) => cell_on hW (Rp.2 3 _ rfl).1
      have kb3 := fun W (hW : Below w9.heap.size w9 W) => cell_on hW (Rb.2 3 _ rfl).1
      have kc4 := fun W (hW : Below w9.heap.size w9 W) => cell_on hW (Ro.2 4 _ rfl).1
      have kd4 := fun W (hW : Below w9.heap.size w9 W) => cell_on hW (Rp.2 4 _ rfl).1
      have kb4 := fun W (hW : Below w9.heap.size w9 W) => cell_on hW (Rb.2 4 _ rfl).1
      have kc5 := fun W (hW : Below w9.heap.size w9 W) => cell_on hW (Ro.2 5 _ rfl).1
      have kd5 := fun W (hW : Below w9.heap.size w9 W) => cell_on hW (Rp.2 5 _ rfl).1
      have kb5 := fun W (hW : Below w9.heap.size w9 W) => cell_on hW (Rb.2 5 _ rfl).1
      have kc6 := fun W (hW : Below w9.heap.size w9 W) => cell_on hW (Ro.2 6 _ rfl).1
      have kd6 := fun W (hW : Below w9.heap.size w9 W) => cell_on hW (Rp.2 6 _ rfl).1
      have kb6 := fun W (hW : Below w9.heap.size w9 W) => cell_on hW (Rb.2 6 _ rfl).1
      have cv5 := fun W (hW : Below w9.heap.size w9 W) => conv_text W ((own_rd own5).below hW) c5
      have cv6 := fun W (hW : Below w9.heap.size w9 W) => conv_text W ((own_rd own6).below hW) c6
      cases hRp : rightO p.data
      case false =>
        have h1 := hq6.out
        rw [bytesO_no hRp] at h1
        have j6 : (e6 == 0) = false := by rw [← (Prod.mk.inj h1).2]; rfl
        clear h1 KS kd0 kd1 kd2 kd3 kd4 kd5 kd6 cv5 cv6
        replace hRp := hid hRp
        refine wp_region_noPanic ?_
        refine wp_region_held_drew (S := (fun W => Below w9.heap.size w9 W)) (by kernel_rfl) ?_ (fun hHeld => ?_)
        · exact (Below.refl _ _).drew
        refine wpAnyH_take (i := 0) (oi := ?oi1) (v := ?v1) ?hi1 (by kernel_rfl) (by kernel_rfl) (by kernel_rfl) ?hQ1 ?hy1 (by assumption) ?hrest1
        case hi1 => (simp only [List.getElem?_toArray, List.getElem?_cons_zero]; try rfl)
        case hQ1 => exact fun _ _ _ h => h
        case hy1 =>
          refine Or.inl ⟨by rfl, ?_⟩
          (intro wq hSw; (try dsimp only at hSw); go_simp; try with_reducible rfl)
        (try simp only [Act.put, List.setIfInBounds_toArray, List.set_cons_zero, List.set_cons_succ])
        refine wpAnyH_take (i := 1) (oi := ?oi2) (v := ?v2) ?hi2 (by kernel_rfl) (by kernel_rfl) (by kernel_rfl) ?hQ2 ?hy2 (by assumption) ?hrest2
        case hi2 => (simp only [List.getElem?_toArray, List.getElem?_cons_succ, List.getElem?_cons_zero]; try rfl)
        case hQ2 => exact fun _ _ _ h => h
        case hy2 =>
          refine Or.inl ⟨by rfl, ?_⟩
          (intro wq hSw; (try dsimp only at hSw); go_simp; try with_reducible rfl)
        (try simp only [Act.put, List.setIfInBounds_toArray, List.set_cons_zero, List.set_cons_succ])
        refine wpAnyH_take (i := 2) (oi := ?oi3) (v := ?v3) ?hi3 (by kernel_rfl) (by kernel_rfl) (by kernel_rfl) ?hQ3 ?hy3 (by assumption) ?hrest3
        case hi3 => (simp only [List.getElem?_toArray, List.getElem?_cons_succ, List.getElem?_cons_zero]; try rfl)
        case hQ3 => exact fun _ _ _ h => h
        case hy3 =>
          refine Or.inl ⟨by rfl, ?_⟩
          (intro wq hSw; (try dsimp only at hSw); go_simp; try with_reducible rfl)
        (try simp only [Act.put, List.setIfInBounds_toArray, List.set_cons_zero, List.set_cons_succ])
        refine wpAnyH_take (i := 3) (oi := ?oi4) (v := ?v4) ?hi4 (by kernel_rfl) (by kernel_rfl) (by kernel_rfl) ?hQ4 ?hy4 (by assumption) ?hrest4
        case hi4 => (simp only [List.getElem?_toArray, List.getElem?_cons_succ, List.getElem?_cons_zero]; try rfl)
        case hQ4 => exact fun _ _ _ h => h
        case hy4 =>
          refine Or.inl ⟨by rfl, ?_⟩
          (intro wq hSw; (try dsimp only at hSw); go_simp; try with_reducible rfl)
        (try simp only [Act.put, List.setIfInBounds_toArray, List.set_cons_zero, List.set_cons_succ])
        refine wpAnyH_take (i := 4) (oi := ?oi5) (v := ?v5) ?hi5 (by kernel_rfl) (by kernel_rfl) (by kernel_rfl) ?hQ5 ?hy5 (by assumption) ?hrest5
        case hi5 => (simp only [List.getElem?_toArray, List.getElem?_cons_succ, List.getElem?_cons_zero]; try rfl)
        case hQ5 => exact fun _ _ _ h => h
        case hy5 =>
          refine Or.inl ⟨by rfl, ?_⟩
          (intro wq hSw; (try dsimp only at hSw); go_simp; try with_reducible rfl)
        (try simp only [Act.put, List.setIfInBounds_toArray, List.set_cons_zero, List.set_cons_succ])
        refine wpAnyH_ready (rs := [5]) (by kernel_rfl) (by simp) ?_
        refine AllReadyH.cons (o := ?oi6) ?hi6 (fun K hK => ?hstep6) AllReadyH.nil
        case hi6 => (simp only [List.getElem?_toArray, List.getElem?_cons_succ, List.getElem?_cons_zero]; try rfl)
        go_simp
        (refine (KB1 _ bcur).mono ?_; rintro e wx ⟨rfl, hbx⟩; have bcur := below_step bcur hbx)
        refine hK.out _ _ ?_ (fun hHeld => ?_)
        · exact below_step hHeld hbx
        clear hK K
        (try simp only [Act.put, List.setIfInBounds_toArray, List.set_cons_zero, List.set_cons_succ])
        refine wpAnyH_take (i := 6) (oi := ?oi7) (v := ?v7) ?hi7 (by kernel_rfl) (by kernel_rfl) (by kernel_rfl) ?hQ7 ?hy7 (by assumption) ?hrest7
        case hi7 => (simp only [List.getElem?_toArray, List.getElem?_cons_succ, List.getElem?_cons_zero]; try rfl)
        case hQ7 => exact fun _ _ _ h => h
        case hy7 =>
          refine Or.inl ⟨by rfl, ?_⟩
          (intro wq hSw; (try dsimp only at hSw); go_simp; try with_reducible rfl)
        (try simp only [Act.put, List.setIfInBounds_toArray, List.set_cons_zero, List.set_cons_succ])
        refine wpAnyH_take (i := 7) (oi := ?oi8) (v := ?v8) ?hi8 (by kernel_rfl) (by kernel_rfl) (by kernel_rfl) ?hQ8 ?hy8 (by assumption) ?hrest8
        case hi8 => (simp only [List.getElem?_toArray, List.getElem?_cons_succ, List.getElem?_cons_zero]; try rfl)
        case hQ8 => exact fun _ _ _ h => h
        case hy8 =>
          refine Or.inl ⟨by rfl, ?_⟩
          (intro wq hSw; (try dsimp only at hSw); go_simp; try with_reducible rfl)
        (try simp only [Act.put, List.setIfInBounds_toArray, List.set_cons_zero, List.set_cons_succ])
        refine wpAnyH_take (i := 8) (oi := ?oi9) (v := ?v9) ?hi9 (by kernel_rfl) (by kernel_rfl) (by kernel_rfl) ?hQ9 ?hy9 (by assumption) ?hrest9
        case hi9 => (simp only [List.getElem?_toArray, List.getElem?_cons_succ, List.getElem?_cons_zero]; try rfl)
        case hQ9 => exact fun _ _ _ h => h
        case hy9 =>
          refine Or.inl ⟨by rfl, ?_⟩
          (intro wq hSw; (try dsimp only at hSw); go_simp; try with_reducible rfl)
        (try simp only [Act.put, List.setIfInBounds_toArray, List.set_cons_zero, List.set_cons_succ])
        refine wpAnyH_take (i := 9) (oi := ?oi10) (v := ?v10) ?hi10 (by kernel_rfl) (by kernel_rfl) (by kernel_rfl) ?hQ10 ?hy10 (by assumption) ?hrest10
        case hi10 => (simp only [List.getElem?_toArray, List.getElem?_cons_succ, List.getElem?_cons_zero]; try rfl)
        case hQ10 => exact fun _ _ _ h => h
        case hy10 =>
          refine Or.inl ⟨by rfl, ?_⟩
          (intro wq hSw; (try dsimp only at hSw); go_simp; try with_reducible rfl)
        (try simp only [Act.put, List.setIfInBounds_toArray, List.set_cons_zero, List.set_cons_succ])
        refine wpAnyH_take (i := 10) (oi := ?oi11) (v := ?v11) ?hi11 (by kernel_rfl) (by kernel_rfl) (by kernel_rfl) ?hQ11 ?hy11 (by assumption) ?hrest11
        case hi11 => (simp only [List.getElem?_toArray, List.getElem?_cons_succ, List.getElem?_cons_zero]; try rfl)
        case hQ11 => exact fun _ _ _ h => h
        case hy11 =>
          refine Or.inl ⟨by rfl, ?_⟩
          (intro wq hSw; (try dsimp only at hSw); go_simp; try with_reducible rfl)
        (try simp only [Act.put, List.setIfInBounds_toArray, List.set_cons_zero, List.set_cons_succ])
        refine wpAnyH_take (i := 11) (oi := ?oi12) (v := ?v12) ?hi12 (by kernel_rfl) (by kernel_rfl) (by kernel_rfl) ?hQ12 ?hy12 (by assumption) ?hrest12
        case hi12 => (simp only [List.getElem?_toArray, List.getElem?_cons_succ, List.getElem?_cons_zero]; try rfl)
        case hQ12 => exact fun _ _ _ h => h
        case hy12 =>
          refine Or.inl ⟨by rfl, ?_⟩
          (intro wq hSw; (try dsimp only at hSw); go_simp; try with_reducible rfl)
        (try simp only [Act.put, List.setIfInBounds_toArray, List.set_cons_zero, List.set_cons_succ])
        refine wpAnyH_take (i := 12) (oi := ?oi13) (v := undef) ?hi13 (by kernel_rfl) (by kernel_rfl) (by kernel_rfl) ?hQ13 ?hy13 (by assumption) ?hrest13
        case hi13 => (simp only [List.getElem?_toArray, List.getElem?_cons_succ, List.getElem?_cons_zero]; try rfl)
        case hQ13 => exact fun _ _ _ h => h
        case hy13 => exact Or.inr ⟨by rfl, rfl⟩
        (try simp only [Act.put, List.setIfInBounds_toArray, List.set_cons_zero, List.set_cons_succ])
        refine wpAnyH_take (i := 13) (oi := ?oi14) (v := undef) ?hi14 (by kernel_rfl) (by kernel_rfl) (by kernel_rfl) ?hQ14 ?hy14 (by assumption) ?hrest14
        case hi14 => (simp only [List.getElem?_toArray, List.getElem?_cons_succ, List.getElem?_cons_zero]; try rfl)
        case hQ14 => exact fun _ _ _ h => h
        case hy14 => exact Or.inr ⟨by rfl, rfl⟩
        (try simp only [Act.put, List.setIfInBounds_toArray, List.set_cons_zero, List.set_cons_succ])
        refine wpAnyH_take (i := 14) (oi := ?oi15) (v := undef) ?hi15 (by kernel_rfl) (by kernel_rfl) (by kernel_rfl) ?hQ15 ?hy15 (by assumption) ?hrest15
        case hi15 => (simp only [List.getElem?_toArray, List.getElem?_cons_succ, List.getElem?_cons_zero]; try rfl)
        case hQ15 => exact fun _ _ _ h => h
        case hy15 => exact Or.inr ⟨by rfl, rfl⟩
        (try simp only [Act.put, List.setIfInBounds_toArray, List.set_cons_zero, List.set_cons_succ])
        refine wpAnyH_take (i := 15) (oi := ?oi16) (v := undef) ?hi16 (by kernel_rfl) (by kernel_rfl) (by kernel_rfl) ?hQ16 ?hy16 (by assumption) ?hrest16
        case hi16 => (simp only [List.getElem?_toArray, List.getElem?_cons_succ, List.getElem?_cons_zero]; try rfl)
        case hQ16 => exact fun _ _ _ h => h
        case hy16 => exact Or.inr ⟨by rfl, rfl⟩
        (try simp only [Act.put, List.setIfInBounds_toArray, List.set_cons_zero, List.set_cons_succ])
        refine wpAnyH_take (i := 16) (oi := ?oi17) (v := undef) ?hi17 (by kernel_rfl) (by kernel_rfl) (by kernel_rfl) ?hQ17 ?hy17 (by assumption) ?hrest17
        case hi17 => (simp only [List.getElem?_toArray, List.getElem?_cons_succ, List.getElem?_cons_zero]; try rfl)
        case hQ17 => exact fun _ _ _ h => h
        case hy17 => exact Or.inr ⟨by rfl, rfl⟩
        (try simp only [Act.put, List.setIfInBounds_toArray, List.set_cons_zero, List.set_cons_succ])
        refine wpAnyH_take (i := 17) (oi := ?oi18) (v := undef) ?hi18 (by kernel_rfl) (by kernel_rfl) (by kernel_rfl) ?hQ18 ?hy18 (by assumption) ?hrest18
        case hi18 => (simp only [List.getElem?_toArray, List.getElem?_cons_succ, List.getElem?_cons_zero]; try rfl)
        case hQ18 => exact fun _ _ _ h => h
        case hy18 => exact Or.inr ⟨by rfl, rfl⟩
        (try simp only [Act.put, List.setIfInBounds_toArray, List.set_cons_zero, List.set_cons_succ])
        refine wpAnyH_take (i := 18) (oi := ?oi19) (v := undef) ?hi19 (by kernel_rfl) (by kernel_rfl) (by kernel_rfl) ?hQ19 ?hy19 (by assumption) ?hrest19
        case hi19 => (simp only [List.getElem?_toArray, List.getElem?_cons_succ, List.getElem?_cons_zero]; try rfl)
        case hQ19 => exact fun _ _ _ h => h
        case hy19 => exact Or.inr ⟨by rfl, rfl⟩
        (try simp only [Act.put, List.setIfInBounds_toArray, List.set_cons_zero, List.set_cons_succ])
        refine wpAnyH_take (i := 19) (oi := ?oi20) (v := undef) ?hi20 (by kernel_rfl) (by kernel_rfl) (by kernel_rfl) ?hQ20 ?hy20 (by assumption) ?hrest20
        case hi20 => (simp only [List.getElem?_toArray, List.getElem?_cons_succ, List.getElem?_cons_zero]; try rfl)
        case hQ20 => exact fun _ _ _ h => h
        case hy20 => exact Or.inr ⟨by rfl, rfl⟩
        (try simp only [Act.put, List.setIfInBounds_toArray, List.set_cons_zero, List.set_cons_succ])
        refine wpAnyH_take (i := 20) (oi := ?oi21) (v := undef) ?hi21 (by kernel_rfl) (by kernel_rfl) (by kernel_rfl) ?hQ21 ?hy21 (by assumption) ?hrest21
        case hi21 => (simp only [List.getElem?_toArray, List.getElem?_cons_succ, List.getElem?_cons_zero]; try rfl)
        case hQ21 => exact fun _ _ _ h => h
        case hy21 => exact Or.inr ⟨by rfl, rfl⟩
        (try simp only [Act.put, List.setIfInBounds_toArray, List.set_cons_zero, List.set_cons_succ])
        refine wpAnyH_take (i := 21) (oi := ?oi22) (v := ?v22) ?hi22 (by kernel_rfl) (by kernel_rfl) (by kernel_rfl) ?hQ22 ?hy22 (by assumption) ?hrest22
        case hi22 => (simp only [List.getElem?_toArray, List.getElem?_cons_succ, List.getElem?_cons_zero]; try rfl)
        case hQ22 => exact fun _ _ _ h => h
        case hy22 =>
          refine Or.inl ⟨by rfl, ?_⟩
          (intro wq hSw; (try dsimp only at hSw); go_simp; try with_reducible rfl)
        (try simp only [Act.put, List.setIfInBounds_toArray, List.set_cons_zero, List.set_cons_succ])
        refine wpAnyH_take (i := 22) (oi := ?oi23) (v := ?v23) ?hi23 (by kernel_rfl) (by kernel_rfl) (by kernel_rfl) ?hQ23 ?hy23 (by assumption) ?hrest23
        case hi23 => (simp only [List.getElem?_toArray, List.getElem?_cons_succ, List.getElem?_cons_zero]; try rfl)
        case hQ23 => exact fun _ _ _ h => h
        case hy23 =>
          refine Or.inl ⟨by rfl, ?_⟩
          (intro wq hSw; (try dsimp only at hSw); go_simp; try with_reducible rfl)
        (try simp only [Act.put, List.setIfInBounds_toArray, List.set_cons_zero, List.set_cons_succ])
        refine wpAnyH_done (by kernel_rfl) ?_ _
        refine NoPanic.normal ?_
        ((go_wp2_with fail); go_meet; exact below_step b9 hHeld)
      case true =>
        have h1 := hq6.out
        rw [bytesO_ok hRp] at h1
        have j6 : (e6 == 0) = true := by rw [← (Prod.mk.inj h1).2]; rfl
        have hsm : sameO o.data p.data = decide (x5 = x6) := by rw [hx5.out, ← (Prod.mk.inj h1).1]; exact putO_inj hro.out.symm hRp io ip
        have KS1 := fun W (hW : Below w9.heap.size w9 W) => KS.out W (ho.below hW) (hp.below hW)
        rw [hsm] at KS1
        have s1 := str_beq x5 x6
        generalize decide (x5 = x6) = dd at s1 KS1
        generalize str x5 = t5 at cv5 s1
        generalize str x6 = t6 at cv6 s1
        clear h1 KS hsm
        replace hRp := hid hRp
        refine wp_region_noPanic ?_
        refine wp_region_held_drew (S := (fun W => Below w9.heap.size w9 W)) (by kernel_rfl) ?_ (fun hHeld => ?_)
        · exact (Below.refl _ _).drew
        refine wpAnyH_take (i := 0) (oi := ?oi24) (v := ?v24) ?hi24 (by kernel_rfl) (by kernel_rfl) (by kernel_rfl) ?hQ24 ?hy24 (by assumption) ?hrest24
        case hi24 => (simp only [List.getElem?_toArray, List.getElem?_cons_zero]; try rfl)
        case hQ24 => exact fun _ _ _ h => h
        case hy24 =>
          refine Or.inl ⟨by rfl, ?_⟩
          (intro wq hSw; (try dsimp only at hSw); go_simp; try with_reducible rfl)
        (try simp only [Act.put, List.setIfInBounds_toArray, List.set_cons_zero, List.set_cons_succ])
        refine wpAnyH_take (i := 1) (oi := ?oi25) (v := ?v25) ?hi25 (by kernel_rfl) (by kernel_rfl) (by kernel_rfl) ?hQ25 ?hy25 (by assumption) ?hrest25
        case hi25 => (simp only [List.getElem?_toArray, List.getElem?_cons_succ, List.getElem?_cons_zero]; try rfl)
        case hQ25 => exact fun _ _ _ h => h
        case hy25 =>
          refine Or.inl ⟨by rfl, ?_⟩
          (intro wq hSw; (try dsimp only at hSw); go_simp; try with_reducible rfl)
        (try simp only [Act.put, List.setIfInBounds_toArray, List.set_cons_zero, List.set_cons_succ])
        refine wpAnyH_take (i := 2) (oi := ?oi26) (v := ?v26) ?hi26 (by kernel_rfl) (by kernel_rfl) (by kernel_rfl) ?hQ26 ?hy26 (by assumption) ?hrest26
        case hi26 => (simp only [List.getElem?_toArray, List.getElem?_cons_succ, List.getElem?_cons_zero]; try rfl)
        case hQ26 => exact fun _ _ _ h => h
        case hy26 =>
          refine Or.inl ⟨by rfl, ?_⟩
          (intro wq hSw; (try dsimp only at hSw); go_simp; try with_reducible rfl)
        (try simp only [Act.put, List.setIfInBounds_toArray, List.set_cons_zero, List.set_cons_succ])
        refine wpAnyH_take (i := 3) (oi := ?oi27) (v := ?v27) ?hi27 (by kernel_rfl) (by kernel_rfl) (by kernel_rfl) ?hQ27 ?hy27 (by assumption) ?hrest27
        case hi27 => (simp only [List.getElem?_toArray, List.getElem?_cons_succ, List.getElem?_cons_zero]; try rfl)
        case hQ27 => exact fun _ _ _ h => h
        case hy27 =>
          refine Or.inl ⟨by rfl, ?_⟩
          (intro wq hSw; (try dsimp only at hSw); go_simp; try with_reducible rfl)
        (try simp only [Act.put, List.setIfInBounds_toArray, List.set_cons_zero, List.set_cons_succ])
        refine wpAnyH_take (i := 4) (oi := ?oi28) (v := ?v28) ?hi28 (by kernel_rfl) (by kernel_rfl) (by kernel_rfl) ?hQ28 ?hy28 (by assumption) ?hrest28
        case hi28 => (simp only [List.getElem?_toArray, List.getElem?_cons_succ, List.getElem?_cons_zero]; try rfl)
        case hQ28 => exact fun _ _ _ h => h
        case hy28 =>
          refine Or.inl ⟨by rfl, ?_⟩
          (intro wq hSw; (try dsimp only at hSw); go_simp; try with_reducible rfl)
        (try simp only [Act.put, List.setIfInBounds_toArray, List.set_cons_zero, List.set_cons_succ])
        refine wpAnyH_ready (rs := [5]) (by kernel_rfl) (by simp) ?_
        refine AllReadyH.cons (o := ?oi29) ?hi29 (fun K hK => ?hstep29) AllReadyH.nil
        case hi29 => (simp only [List.getElem?_toArray, List.getElem?_cons_succ, List.getElem?_cons_zero]; try rfl)
        go_simp
        (refine (KB1 _ bcur).mono ?_; rintro e wx ⟨rfl, hbx⟩; have bcur := below_step bcur hbx)
        refine hK.out _ _ ?_ (fun hHeld => ?_)
        · exact below_step hHeld hbx
        clear hK K
        (try simp only [Act.put, List.setIfInBounds_toArray, List.set_cons_zero, List.set_cons_succ])
        refine wpAnyH_take (i := 6) (oi := ?oi30) (v := ?v30) ?hi30 (by kernel_rfl) (by kernel_rfl) (by kernel_rfl) ?hQ30 ?hy30 (by assumption) ?hrest30
        case hi30 => (simp only [List.getElem?_toArray, List.getElem?_cons_succ, List.getElem?_cons_zero]; try rfl)
        case hQ30 => exact fun _ _ _ h => h
        case hy30 =>
          refine Or.inl ⟨by rfl, ?_⟩
          (intro wq hSw; (try dsimp only at hSw); go_simp; try with_reducible rfl)
        (try simp only [Act.put, List.setIfInBounds_toArray, List.set_cons_zero, List.set_cons_succ])
        refine wpAnyH_take (i := 7) (oi := ?oi31) (v := ?v31) ?hi31 (by kernel_rfl) (by kernel_rfl) (by kernel_rfl) ?hQ31 ?hy31 (by assumption) ?hrest31
        case hi31 => (simp only [List.getElem?_toArray, List.getElem?_cons_succ, List.getElem?_cons_zero]; try rfl)
        case hQ31 => exact fun _ _ _ h => h
        case hy31 =>
          refine Or.inl ⟨by rfl, ?_⟩
          (intro wq hSw; (try dsimp only at hSw); go_simp; try with_reducible rfl)
        (try simp only [Act.put, List.setIfInBounds_toArray, List.set_cons_zero, List.set_cons_succ])
        refine wpAnyH_take (i := 8) (oi := ?oi32) (v := ?v32) ?hi32 (by kernel_rfl) (by kernel_rfl) (by kernel_rfl) ?hQ32 ?hy32 (by assumption) ?hrest32
        case hi32 => (simp only [List.getElem?_toArray, List.getElem?_cons_succ, List.getElem?_cons_zero]; try rfl)
        case hQ32 => exact fun _ _ _ h => h
        case hy32 =>
          refine Or.inl ⟨by rfl, ?_⟩
          (intro wq hSw; (try dsimp only at hSw); go_simp; try with_reducible rfl)
        (try simp only [Act.put, List.setIfInBounds_toArray, List.set_cons_zero, List.set_cons_succ])
        refine wpAnyH_take (i := 9) (oi := ?oi33) (v := ?v33) ?hi33 (by kernel_rfl) (by kernel_rfl) (by kernel_rfl) ?hQ33 ?hy33 (by assumption) ?hrest33
        case hi33 => (simp only [List.getElem?_toArray, List.getElem?_cons_succ, List.getElem?_cons_zero]; try rfl)
        case hQ33 => exact fun _ _ _ h => h
        case hy33 =>
          refine Or.inl ⟨by rfl, ?_⟩
          (intro wq hSw; (try dsimp only at hSw); go_simp; try with_reducible rfl)
        (try simp only [Act.put, List.setIfInBounds_toArray, List.set_cons_zero, List.set_cons_succ])
        refine wpAnyH_take (i := 10) (oi := ?oi34) (v := ?v34) ?hi34 (by kernel_rfl) (by kernel_rfl) (by kernel_rfl) ?hQ34 ?hy34 (by assumption) ?hrest34
        case hi34 => (simp only [List.getElem?_toArray, List.getElem?_cons_succ, List.getElem?_cons_zero]; try rfl)
        case hQ34 => exact fun _ _ _ h => h
        case hy34 =>
          refine Or.inl ⟨by rfl, ?_⟩
          (intro wq hSw; (try dsimp only at hSw); go_simp; try with_reducible rfl)
        (try simp only [Act.put, List.setIfInBounds_toArray, List.set_cons_zero, List.set_cons_succ])
        refine wpAnyH_take (i := 11) (oi := ?oi35) (v := ?v35) ?hi35 (by kernel_rfl) (by kernel_rfl) (by kernel_rfl) ?hQ35 ?hy35 (by assumption) ?hrest35
        case hi35 => (simp only [List.getElem?_toArray, List.getElem?_cons_succ, List.getElem?_cons_zero]; try rfl)
        case hQ35 => exact fun _ _ _ h => h
        case hy35 =>
          refine Or.inl ⟨by rfl, ?_⟩
          (intro wq hSw; (try dsimp only at hSw); go_simp; try with_reducible rfl)
        (try simp only [Act.put, List.setIfInBounds_toArray, List.set_cons_zero, List.set_cons_succ])
        refine wpAnyH_take (i := 12) (oi := ?oi36) (v := ?v36) ?hi36 (by kernel_rfl) (by kernel_rfl) (by kernel_rfl) ?hQ36 ?hy36 (by assumption) ?hrest36
        case hi36 => (simp only [List.getElem?_toArray, List.getElem?_cons_succ, List.getElem?_cons_zero]; try rfl)
        case hQ36 => exact fun _ _ _ h => h
        case hy36 =>
          refine Or.inl ⟨by rfl, ?_⟩
          (intro wq hSw; (try dsimp only at hSw); go_simp; try with_reducible rfl)
        (try simp only [Act.put, List.setIfInBounds_toArray, List.set_cons_zero, List.set_cons_succ])
        refine wpAnyH_take (i := 13) (oi := ?oi37) (v := ?v37) ?hi37 (by kernel_rfl) (by kernel_rfl) (by kernel_rfl) ?hQ37 ?hy37 (by assumption) ?hrest37
        case hi37 => (simp only [List.getElem?_toArray, List.getElem?_cons_succ, List.getElem?_cons_zero]; try rfl)
        case hQ37 => exact fun _ _ _ h => h
        case hy37 =>
          refine Or.inl ⟨by rfl, ?_⟩
          (intro wq hSw; (try dsimp only at hSw); go_simp; try with_reducible rfl)
        (try simp only [Act.put, List.setIfInBounds_toArray, List.set_cons_zero, List.set_cons_succ])
        refine wpAnyH_take (i := 14) (oi := ?oi38) (v := ?v38) ?hi38 (by kernel_rfl) (by kernel_rfl) (by kernel_rfl) ?hQ38 ?hy38 (by assumption) ?hrest38
        case hi38 => (simp only [List.getElem?_toArray, List.getElem?_cons_succ, List.getElem?_cons_zero]; try rfl)
        case hQ38 => exact fun _ _ _ h => h
        case hy38 =>
          refine Or.inl ⟨by rfl, ?_⟩
          (intro wq hSw; (try dsimp only at hSw); go_simp; try with_reducible rfl)
        (try simp only [Act.put, List.setIfInBounds_toArray, List.set_cons_zero, List.set_cons_succ])
        refine wpAnyH_take (i := 15) (oi := ?oi39) (v := ?v39) ?hi39 (by kernel_rfl) (by kernel_rfl) (by kernel_rfl) ?hQ39 ?hy39 (by assumption) ?hrest39
        case hi39 => (simp only [List.getElem?_toArray, List.getElem?_cons_succ, List.getElem?_cons_zero]; try rfl)
        case hQ39 => exact fun _ _ _ h => h
        case hy39 =>
          refine Or.inl ⟨by rfl, ?_⟩
          (intro wq hSw; (try dsimp only at hSw); go_simp; try with_reducible rfl)
        (try simp only [Act.put, List.setIfInBounds_toArray, List.set_cons_zero, List.set_cons_succ])
        refine wpAnyH_take (i := 16) (oi := ?oi40) (v := ?v40) ?hi40 (by kernel_rfl) (by kernel_rfl) (by kernel_rfl) ?hQ40 ?hy40 (by assumption) ?hrest40
        case hi40 => (simp only [List.getElem?_toArray, List.getElem?_cons_succ, List.getElem?_cons_zero]; try rfl)
        case hQ40 => exact fun _ _ _ h => h
        case hy40 =>
          refine Or.inl ⟨by rfl, ?_⟩
          (intro wq hSw; (try dsimp only at hSw); go_simp; try with_reducible rfl)
        (try simp only [Act.put, List.setIfInBounds_toArray, List.set_cons_zero, List.set_cons_succ])
        refine wpAnyH_take (i := 17) (oi := ?oi41) (v := ?v41) ?hi41 (by kernel_rfl) (by kernel_rfl) (by kernel_rfl) ?hQ41 ?hy41 (by assumption) ?hrest41
        case hi41 => (simp only [List.getElem?_toArray, List.getElem?_cons_succ, List.getElem?_cons_zero]; try rfl)
        case hQ41 => exact fun _ _ _ h => h
        case hy41 =>
          refine Or.inl ⟨by rfl, ?_⟩
          (intro wq hSw; (try dsimp only at hSw); go_simp; try with_reducible rfl)
        (try simp only [Act.put, List.setIfInBounds_toArray, List.set_cons_zero, List.set_cons_succ])
        refine wpAnyH_take (i := 18) (oi := ?oi42) (v := ?v42) ?hi42 (by kernel_rfl) (by kernel_rfl) (by kernel_rfl) ?hQ42 ?hy42 (by assumption) ?hrest42
        case hi42 => (simp only [List.getElem?_toArray, List.getElem?_cons_succ, List.getElem?_cons_zero]; try rfl)
        case hQ42 => exact fun _ _ _ h => h
        case hy42 =>
          refine Or.inl ⟨by rfl, ?_⟩
          (intro wq hSw; (try dsimp only at hSw); go_simp; try with_reducible rfl)
        (try simp only [Act.put, List.setIfInBounds_toArray, List.set_cons_zero, List.set_cons_succ])
        refine wpAnyH_ready (rs := [19]) (by kernel_rfl) (by simp) ?_
        refine AllReadyH.cons (o := ?oi43) ?hi43 (fun K hK => ?hstep43) AllReadyH.nil
        case hi43 => (simp only [List.getElem?_toArray, List.getElem?_cons_succ, List.getElem?_cons_zero]; try rfl)
        go_simp
        (refine (KS1 _ bcur).mono ?_; rintro e wy ⟨rfl, hbx⟩; have bcur := below_step bcur hbx)
        refine hK.out _ _ ?_ (fun hHeld => ?_)
        · exact below_step hHeld hbx
        clear hK K
        (try simp only [Act.put, List.setIfInBounds_toArray, List.set_cons_zero, List.set_cons_succ])
        refine wpAnyH_take (i := 20) (oi := ?oi44) (v := ?v44) ?hi44 (by kernel_rfl) (by kernel_rfl) (by kernel_rfl) ?hQ44 ?hy44 (by assumption) ?hrest44
        case hi44 => (simp only [List.getElem?_toArray, List.getElem?_cons_succ, List.getElem?_cons_zero]; try rfl)
        case hQ44 => exact fun _ _ _ h => h
        case hy44 =>
          refine Or.inl ⟨by rfl, ?_⟩
          (intro wq hSw; (try dsimp only at hSw); go_simp; try with_reducible rfl)
        (try simp only [Act.put, List.setIfInBounds_toArray, List.set_cons_zero, List.set_cons_succ])
        refine wpAnyH_take (i := 21) (oi := ?oi45) (v := ?v45) ?hi45 (by kernel_rfl) (by kernel_rfl) (by kernel_rfl) ?hQ45 ?hy45 (by assumption) ?hrest45
        case hi45 => (simp only [List.getElem?_toArray, List.getElem?_cons_succ, List.getElem?_cons_zero]; try rfl)
        case hQ45 => exact fun _ _ _ h => h
        case hy45 =>
          refine Or.inl ⟨by rfl, ?_⟩
          (intro wq hSw; (try dsimp only at hSw); go_simp; try with_reducible rfl)
        (try simp only [Act.put, List.setIfInBounds_toArray, List.set_cons_zero, List.set_cons_succ])
        refine wpAnyH_take (i := 22) (oi := ?oi46) (v := ?v46) ?hi46 (by kernel_rfl) (by kernel_rfl) (by kernel_rfl) ?hQ46 ?hy46 (by assumption) ?hrest46
        case hi46 => (simp only [List.getElem?_toArray, List.getElem?_cons_succ, List.getElem?_cons_zero]; try rfl)
        case hQ46 => exact fun _ _ _ h => h
        case hy46 =>
          refine Or.inl ⟨by rfl, ?_⟩
          (intro wq hSw; (try dsimp only at hSw); go_simp; try with_reducible rfl)
        (try simp only [Act.put, List.setIfInBounds_toArray, List.set_cons_zero, List.set_cons_succ])
        refine wpAnyH_done (by kernel_rfl) ?_ _
        refine NoPanic.normal ?_
        ((go_wp2_with fail); go_meet; exact below_step b9 hHeld)
  case rest =>
  replace Rr := Rr.below hcut
  replace Rs := Rs.below hcut
  replace hr := hr.below (below_step (Below.refl _ _) hcut)
  replace hs := hs.below (below_step (Below.refl _ _) hcut)
  replace b02 := below_step b07 hcut
  clear b07 hcut Ro Rp ho hp own5 own6 hq5 hq6 hc5 hc6 j0 hro KPo KPp KR KS KB KGo KGp hb3 hb4 hb5 hb6 hb7
  have E0 := (Rr.2 0 _ rfl).1
  have E1 := (Rr.2 1 _ rfl).1
  have E2 := (Rr.2 2 _ rfl).1
  have E3 := (Rr.2 3 _ rfl).1
  have E4 := (Rr.2 4 _ rfl).1
  have E5 := (Rr.2 5 _ rfl).1
  have E6 := (Rr.2 6 _ rfl).1
  have E7 := (Rr.2 7 _ rfl).1
  have E8 := (Rr.2 8 _ rfl).1
  go_wp2_with fail
  refine (KPr.out wc hr).mono ?_
  rintro e w5 ⟨v5, rfl, own5, hb5⟩
  replace b02 := below_step b02 hb5
  obtain ⟨A5, c5, rfl, hc5, _⟩ := own_shape own5
  obtain ⟨⟨x5, e5⟩, hq5⟩ : ∃ q, bytesRp r.data = q := ⟨_, rfl⟩
  rw [hq5] at own5 hc5 ⊢
  replace hq5 := hid hq5
  dsimp only at own5 hc5 ⊢
  clear E0 E1 E2 E3 E4 E5 E6 E7 E8
  replace Rr := Rr.below hb5
  replace Rs := Rs.below hb5
  replace hr := hr.below hb5
  replace hs := hs.below hb5
  have F0 := (Rs.2 0 _ rfl).1
  have F1 := (Rs.2 1 _ rfl).1
  have F2 := (Rs.2 2 _ rfl).1
  have F3 := (Rs.2 3 _ rfl).1
  have F4 := (Rs.2 4 _ rfl).1
  have F5 := (Rs.2 5 _ rfl).1
  have F6 := (Rs.2 6 _ rfl).1
  have F7 := (Rs.2 7 _ rfl).1
  have F8 := (Rs.2 8 _ rfl).1
  go_wp2_with fail
  refine (KPs.out w5 hs).mono ?_
  rintro e w6 ⟨v6, rfl, own6, hb6⟩
  replace b02 := below_step b02 hb6
  obtain ⟨A6, c6, rfl, hc6, _⟩ := own_shape own6
  obtain ⟨⟨x6, e6⟩, hq6⟩ : ∃ q, bytesRp s.data = q := ⟨_, rfl⟩
  rw [hq6] at own6 hc6 ⊢
  replace hq6 := hid hq6
  dsimp only at own6 hc6 ⊢
  replace own5 := own_below own5 hb6
  clear F0 F1 F2 F3 F4 F5 F6 F7 F8
  replace Rr := Rr.below hb6
  replace Rs := Rs.below hb6
  replace hr := hr.below hb6
  replace hs := hs.below hb6
  cases hRr : rightR r.data
  case false =>
    have h1 := hq5.out
    rw [bytesRp_no hRr] at h1
    have j1 : (e5 != 0) = true := by rw [← (Prod.mk.inj h1).2]; rfl
    have j2 : (e5 == 151) = true := by rw [← (Prod.mk.inj h1).2]; rfl
    have j3 : ((x5.length : Int) == 0) = true := by rw [← (Prod.mk.inj h1).1]; rfl
    clear h1 hRr
    go_wp2_with fail
    go_ret
    exact ⟨rfl, b02⟩
  have h1 := hq5.out
  rw [bytesRp_ok hRr] at h1
  have j1 : (e5 != 0) = false := by rw [← (Prod.mk.inj h1).2]; rfl
  have hx5 : x5 = putR r.data := (Prod.mk.inj h1).1.symm
  clear h1
  have hl5 : x5.length ≤ 100000 := by rw [hx5]; exact putR_le hRr
  have hrd : readR x5 = (r.data, 0) := by rw [hx5]; exact reply_back hRr ir
  replace hx5 := hid hx5
  replace hRr := hid hRr
  have KG5 := fun W (hW : Rd W A5 (x5.map byt)) => getreply_any (c := c5) hW hc5 (by omega)
  rw [hrd] at KG5
  replace KG5 := hid KG5
  clear hrd
  go_wp2_with fail
  refine (KG5.out w6 (own_rd own5)).mono ?_
  rintro e w8 ⟨b, rfl, d8, hb8, hbb⟩
  have hbv : b.val = .agg #[.int .i64 b.er, .int .i64 b.pl, .int .i64 b.v.c, .int .i64 b.v.r, .slice b.v.A b.v.op.length b.v.cap, .int .i64 b.tr, .int .i64 b.us, .bool b.fd, .slice b.tA b.t.length b.tc] := rfl
  have bx := below_alloc w8 (.cells #[.int .i64 b.er, .int .i64 b.pl, .int .i64 b.v.c, .int .i64 b.v.r, .slice b.v.A b.v.op.length b.v.cap, .int .i64 b.tr, .int .i64 b.us, .bool b.fd, .slice b.tA b.t.length b.tc] 34)
  have Rb := Row.new w8 [.int .i64 b.er, .int .i64 b.pl, .int .i64 b.v.c, .int .i64 b.v.r, .slice b.v.A b.v.op.length b.v.cap, .int .i64 b.tr, .int .i64 b.us, .bool b.fd, .slice b.tA b.t.length b.tc] 34
  rw [hbv]
  go_upto_region 17 with fail
  generalize w8.alloc _ = w9 at bx Rb ⊢
  have b9 := below_step hbb bx
  replace b02 := below_step b02 b9
  replace Rr := Rr.below b9
  replace Rs := Rs.below b9
  replace hr := hr.below b9
  replace hs := hs.below b9
  replace hb8 := hb8.below bx
  replace own5 := own_below own5 b9
  replace own6 := own_below own6 b9
  have KB1 := fun W (hW : Below w9.heap.size w9 W) => KBr.out W b (hb8.below hW) (hr.below hW)
  rw [d8, sameR_iff.2 rfl, hbv, hrv.out] at KB1
  clear d8 hbv KBr
  have bcur := (Below.refl w9.heap.size w9).drew
  have kc0 := fun W (hW : Below w9.heap.size w9 W) => cell_on hW (Rr.2 0 _ rfl).1
  have kd0 := fun W (hW : Below w9.heap.size w9 W) => cell_on hW (Rs.2 0 _ rfl).1
  have kb0 := fun W (hW : Below w9.heap.size w9 W) => cell_on hW (Rb.2 0 _ rfl).1
  have kc1 := fun W (hW : Below w9.heap.size w9 W) => cell_on hW (Rr.2 1 _ rfl).1
  have kd1 := fun W (hW : Below w9.heap.size w9 W) => cell_on hW (Rs.2 1 _ rfl).1
  have kb1 := fun W (hW : Below w9.heap.size w9 W) => cell_on hW (Rb.2 1 _ rfl).1
  have kc2 := fun W (hW : Below w9.heap.size w9 W) => cell_on hW (Rr.2 2 _ rfl).1
  have kd2 := fun W (hW : Below w9.heap.size w9 W) => cell_on hW (Rs.2 2 _ rfl).1
  have kb2 := fun W (hW : Below w9.heap.size w9 W) => cell_on hW (Rb.2 2 _ rfl).1
  have kc3 := fun W (hW : Below w9.heap.size w9 W) => cell_on hW (Rr.2 3 _ rfl).1
  have kd3 := fun W (hW : Below w9.heap.size w9 W) => cell_on hW (Rs.2 3 _ rfl).1
  have kb3 := fun W (hW : Below w9.heap.size w9 W) => cell_on hW (Rb.2 3 _ rfl).1
  have kc4 := fun W (hW : Below w9.heap.size w9 W) => cell_on hW (Rr.2 4 _ rfl).1
  have kd4 := fun W (hW : Below w9.heap.size w9 W) => cell_on hW (Rs.2 4 _ rfl).1
  have kb4 := fun W (hW : Below w9.heap.size w9 W) => cell_on hW (Rb.2 4 _ rfl).1
  have kc5 := fun W (hW : Below w9.heap.size w9 W) => cell_on hW (Rr.2 5 _ rfl).1
  have kd5 := fun W (hW : Below w9.heap.size w9 W) => cell_on hW (Rs.2 5 _ rfl).1
  have kb5 := fun W (hW : Below w9.heap.size w9 W) => cell_on hW (Rb.2 5 _ rfl).1
  have kc6 := fun W (hW : Below w9.heap.size w9 W) => cell_on hW (Rr.2 6 _ rfl).1
  have kd6 := fun W (hW : Below w9.heap.size w9 W) => cell_on hW (Rs.2 6 _ rfl).1
  have kb6 := fun W (hW : Below w9.heap.size w9 W) => cell_on hW (Rb.2 6 _ rfl).1
  have kc7 := fun W (hW : Below w9.heap.size w9 W) => cell_on hW (Rr.2 7 _ rfl).1
  have kd7 := fun W (hW : Below w9.heap.size w9 W) => cell_on hW (Rs.2 7 _ rfl).1
  have kb7 := fun W (hW : Below w9.heap.size w9 W) => cell_on hW (Rb.2 7 _ rfl).1
  have kc8 := fun W (hW : Below w9.heap.size w9 W) => cell_on hW (Rr.2 8 _ rfl).1
  have kd8 := fun W (hW : Below w9.heap.size w9 W) => cell_on hW (Rs.2 8 _ rfl).1
  have kb8 := fun W (hW : Below w9.heap.size w9 W) => cell_on hW (Rb.2 8 _ rfl).1
  have cv5 := fun W (hW : Below w9.heap.size w9 W) => conv_text W ((own_rd own5).below hW) c5
  have cv6 := fun W (hW : Below w9.heap.size w9 W) => conv_text W ((own_rd own6).below hW) c6
  cases hRp : rightR s.data
  case false =>
    have h1 := hq6.out
    rw [bytesRp_no hRp] at h1
    have j6 : (e6 != 0) = true := by rw [← (Prod.mk.inj h1).2]; rfl
    clear h1 KSr kd0 kd1 kd2 kd3 kd4 kd5 kd6 kd7 kd8 cv5 cv6
    replace hRp := hid hRp
    refine wp_region_noPanic ?_
    refine wp_region_held_drew (S := (fun W => Below w9.heap.size w9 W)) (by kernel_rfl) ?_ (fun hHeld => ?_)
    · exact (Below.refl _ _).drew
    refine wpAnyH_take (i := 0) (oi := ?oi47) (v := ?v47) ?hi47 (by kernel_rfl) (by kernel_rfl) (by kernel_rfl) ?hQ47 ?hy47 (by assumption) ?hrest47
    case hi47 => (simp only [List.getElem?_toArray, List.getElem?_cons_zero]; try rfl)
    case hQ47 => exact fun _ _ _ h => h
    case hy47 =>
      refine Or.inl ⟨by rfl, ?_⟩
      (intro wq hSw; (try dsimp only at hSw); go_simp; try with_reducible rfl)
    (try simp only [Act.put, List.setIfInBounds_toArray, List.set_cons_zero, List.set_cons_succ])
    refine wpAnyH_take (i := 1) (oi := ?oi48) (v := ?v48) ?hi48 (by kernel_rfl) (by kernel_rfl) (by kernel_rfl) ?hQ48 ?hy48 (by assumption) ?hrest48
    case hi48 => (simp only [List.getElem?_toArray, List.getElem?_cons_succ, List.getElem?_cons_zero]; try rfl)
    case hQ48 => exact fun _ _ _ h => h
    case hy48 =>
      refine Or.inl ⟨by rfl, ?_⟩
      (intro wq hSw; (try dsimp only at hSw); go_simp; try with_reducible rfl)
    (try simp only [Act.put, List.setIfInBounds_toArray, List.set_cons_zero, List.set_cons_succ])
    refine wpAnyH_take (i := 2) (oi := ?oi49) (v := ?v49) ?hi49 (by kernel_rfl) (by kernel_rfl) (by kernel_rfl) ?hQ49 ?hy49 (by assumption) ?hrest49
    case hi49 => (simp only [List.getElem?_toArray, List.getElem?_cons_succ, List.getElem?_cons_zero]; try rfl)
    case hQ49 => exact fun _ _ _ h => h
    case hy49 =>
      refine Or.inl ⟨by rfl, ?_⟩
      (intro wq hSw; (try dsimp only at hSw); go_simp; try with_reducible rfl)
    (try simp only [Act.put, List.setIfInBounds_toArray, List.set_cons_zero, List.set_cons_succ])
    refine wpAnyH_take (i := 3) (oi := ?oi50) (v := ?v50) ?hi50 (by kernel_rfl) (by kernel_rfl) (by kernel_rfl) ?hQ50 ?hy50 (by assumption) ?hrest50
    case hi50 => (simp only [List.getElem?_toArray, List.getElem?_cons_succ, List.getElem?_cons_zero]; try rfl)
    case hQ50 => exact fun _ _ _ h => h
    case hy50 =>
      refine Or.inl ⟨by rfl, ?_⟩
      (intro wq hSw; (try dsimp only at hSw); go_simp; try with_reducible rfl)
    (try simp only [Act.put, List.setIfInBounds_toArray, List.set_cons_zero, List.set_cons_succ])
    refine wpAnyH_take (i := 4) (oi := ?oi51) (v := ?v51) ?hi51 (by kernel_rfl) (by kernel_rfl) (by kernel_rfl) ?hQ51 ?hy51 (by assumption) ?hrest51
    case hi51 => (simp only [List.getElem?_toArray, List.getElem?_cons_succ, List.getElem?_cons_zero]; try rfl)
    case hQ51 => exact fun _ _ _ h => h
    case hy51 =>
      refine Or.inl ⟨by rfl, ?_⟩
      (intro wq hSw; (try dsimp only at hSw); go_simp; try with_reducible rfl)
    (try simp only [Act.put, List.setIfInBounds_toArray, List.set_cons_zero, List.set_cons_succ])
    refine wpAnyH_take (i := 5) (oi := ?oi52) (v := ?v52) ?hi52 (by kernel_rfl) (by kernel_rfl) (by kernel_rfl) ?hQ52 ?hy52 (by assumption) ?hrest52
    case hi52 => (simp only [List.getElem?_toArray, List.getElem?_cons_succ, List.getElem?_cons_zero]; try rfl)
    case hQ52 => exact fun _ _ _ h => h
    case hy52 =>
      refine Or.inl ⟨by rfl, ?_⟩
      (intro wq hSw; (try dsimp only at hSw); go_simp; try with_reducible rfl)
    (try simp only [Act.put, List.setIfInBounds_toArray, List.set_cons_zero, List.set_cons_succ])
    refine wpAnyH_take (i := 6) (oi := ?oi53) (v := ?v53) ?hi53 (by kernel_rfl) (by kernel_rfl) (by kernel_rfl) ?hQ53 ?hy53 (by assumption) ?hrest53
    case hi53 => (simp only [List.getElem?_toArray, List.getElem?_cons_succ, List.getElem?_cons_zero]; try rfl)
    case hQ53 => exact fun _ _ _ h => h
    case hy53 =>
      refine Or.inl ⟨by rfl, ?_⟩
      (intro wq hSw; (try dsimp only at hSw); go_simp; try with_reducible rfl)
    (try simp only [Act.put, List.setIfInBounds_toArray, List.set_cons_zero, List.set_cons_succ])
    refine wpAnyH_take (i := 7) (oi := ?oi54) (v := ?v54) ?hi54 (by kernel_rfl) (by kernel_rfl) (by kernel_rfl) ?hQ54 ?hy54 (by assumption) ?hrest54
    case hi54 => (simp only [List.getElem?_toArray, List.getElem?_cons_succ, List.getElem?_cons_zero]; try rfl)
    case hQ54 => exact fun _ _ _ h => h
    case hy54 =>
      refine Or.inl ⟨by rfl, ?_⟩
      (intro wq hSw; (try dsimp only at hSw); go_simp; try with_reducible rfl)
    (try simp only [Act.put, List.setIfInBounds_toArray, List.set_cons_zero, List.set_cons_succ])
    refine wpAnyH_ready (rs := [8]) (by kernel_rfl) (by simp) ?_
    refine AllReadyH.cons (o := ?oi55) ?hi55 (fun K hK => ?hstep55) AllReadyH.nil
    case hi55 => (simp only [List.getElem?_toArray, List.getElem?_cons_succ, List.getElem?_cons_zero]; try rfl)
    go_simp
    (refine (KB1 _ bcur).mono ?_; rintro e wx ⟨rfl, hbx⟩; have bcur := below_step bcur hbx)
    refine hK.out _ _ ?_ (fun hHeld => ?_)
    · exact below_step hHeld hbx
    clear hK K
    (try simp only [Act.put, List.setIfInBounds_toArray, List.set_cons_zero, List.set_cons_succ])
    refine wpAnyH_take (i := 9) (oi := ?oi56) (v := ?v56) ?hi56 (by kernel_rfl) (by kernel_rfl) (by kernel_rfl) ?hQ56 ?hy56 (by assumption) ?hrest56
    case hi56 => (simp only [List.getElem?_toArray, List.getElem?_cons_succ, List.getElem?_cons_zero]; try rfl)
    case hQ56 => exact fun _ _ _ h => h
    case hy56 =>
      refine Or.inl ⟨by rfl, ?_⟩
      (intro wq hSw; (try dsimp only at hSw); go_simp; try with_reducible rfl)
    (try simp only [Act.put, List.setIfInBounds_toArray, List.set_cons_zero, List.set_cons_succ])
    refine wpAnyH_take (i := 10) (oi := ?oi57) (v := ?v57) ?hi57 (by kernel_rfl) (by kernel_rfl) (by kernel_rfl) ?hQ57 ?hy57 (by assumption) ?hrest57
    case hi57 => (simp only [List.getElem?_toArray, List.getElem?_cons_succ, List.getElem?_cons_zero]; try rfl)
    case hQ57 => exact fun _ _ _ h => h
    case hy57 =>
      refine Or.inl ⟨by rfl, ?_⟩
      (intro wq hSw; (try dsimp only at hSw); go_simp; try with_reducible rfl)
    (try simp only [Act.put, List.setIfInBounds_toArray, List.set_cons_zero, List.set_cons_succ])
    refine wpAnyH_take (i := 11) (oi := ?oi58) (v := ?v58) ?hi58 (by kernel_rfl) (by kernel_rfl) (by kernel_rfl) ?hQ58 ?hy58 (by assumption) ?hrest58
    case hi58 => (simp only [List.getElem?_toArray, List.getElem?_cons_succ, List.getElem?_cons_zero]; try rfl)
    case hQ58 => exact fun _ _ _ h => h
    case hy58 =>
      refine Or.inl ⟨by rfl, ?_⟩
      (intro wq hSw; (try dsimp only at hSw); go_simp; try with_reducible rfl)
    (try simp only [Act.put, List.setIfInBounds_toArray, List.set_cons_zero, List.set_cons_succ])
    refine wpAnyH_take (i := 12) (oi := ?oi59) (v := ?v59) ?hi59 (by kernel_rfl) (by kernel_rfl) (by kernel_rfl) ?hQ59 ?hy59 (by assumption) ?hrest59
    case hi59 => (simp only [List.getElem?_toArray, List.getElem?_cons_succ, List.getElem?_cons_zero]; try rfl)
    case hQ59 => exact fun _ _ _ h => h
    case hy59 =>
      refine Or.inl ⟨by rfl, ?_⟩
      (intro wq hSw; (try dsimp only at hSw); go_simp; try with_reducible rfl)
    (try simp only [Act.put, List.setIfInBounds_toArray, List.set_cons_zero, List.set_cons_succ])
    refine wpAnyH_take (i := 13) (oi := ?oi60) (v := ?v60) ?hi60 (by kernel_rfl) (by kernel_rfl) (by kernel_rfl) ?hQ60 ?hy60 (by assumption) ?hrest60
    case hi60 => (simp only [List.getElem?_toArray, List.getElem?_cons_succ, List.getElem?_cons_zero]; try rfl)
    case hQ60 => exact fun _ _ _ h => h
    case hy60 =>
      refine Or.inl ⟨by rfl, ?_⟩
      (intro wq hSw; (try dsimp only at hSw); go_simp; try with_reducible rfl)
    (try simp only [Act.put, List.setIfInBounds_toArray, List.set_cons_zero, List.set_cons_succ])
    refine wpAnyH_take (i := 14) (oi := ?oi61) (v := undef) ?hi61 (by kernel_rfl) (by kernel_rfl) (by kernel_rfl) ?hQ61 ?hy61 (by assumption) ?hrest61
    case hi61 => (simp only [List.getElem?_toArray, List.getElem?_cons_succ, List.getElem?_cons_zero]; try rfl)
    case hQ61 => exact fun _ _ _ h => h
    case hy61 => exact Or.inr ⟨by rfl, rfl⟩
    (try simp only [Act.put, List.setIfInBounds_toArray, List.set_cons_zero, List.set_cons_succ])
    refine wpAnyH_take (i := 15) (oi := ?oi62) (v := undef) ?hi62 (by kernel_rfl) (by kernel_rfl) (by kernel_rfl) ?hQ62 ?hy62 (by assumption) ?hrest62
    case hi62 => (simp only [List.getElem?_toArray, List.getElem?_cons_succ, List.getElem?_cons_zero]; try rfl)
    case hQ62 => exact fun _ _ _ h => h
    case hy62 => exact Or.inr ⟨by rfl, rfl⟩
    (try simp only [Act.put, List.setIfInBounds_toArray, List.set_cons_zero, List.set_cons_succ])
    refine wpAnyH_take (i := 16) (oi := ?oi63) (v := undef) ?hi63 (by kernel_rfl) (by kernel_rfl) (by kernel_rfl) ?hQ63 ?hy63 (by assumption) ?hrest63
    case hi63 => (simp only [List.getElem?_toArray, List.getElem?_cons_succ, List.getElem?_cons_zero]; try rfl)
    case hQ63 => exact fun _ _ _ h => h
    case hy63 => exact Or.inr ⟨by rfl, rfl⟩
    (try simp only [Act.put, List.setIfInBounds_toArray, List.set_cons_zero, List.set_cons_succ])
    refine wpAnyH_take (i := 17) (oi := ?oi64) (v := undef) ?hi64 (by kernel_rfl) (by kernel_rfl) (by kernel_rfl) ?hQ64 ?hy64 (by assumption) ?hrest64
    case hi64 => (simp only [List.getElem?_toArray, List.getElem?_cons_succ, List.getElem?_cons_zero]; try rfl)
    case hQ64 => exact fun _ _ _ h => h
    case hy64 => exact Or.inr ⟨by rfl, rfl⟩
    (try simp only [Act.put, List.setIfInBounds_toArray, List.set_cons_zero, List.set_cons_succ])
    refine wpAnyH_take (i := 18) (oi := ?oi65) (v := undef) ?hi65 (by kernel_rfl) (by kernel_rfl) (by kernel_rfl) ?hQ65 ?hy65 (by assumption) ?hrest65
    case hi65 => (simp only [List.getElem?_toArray, List.getElem?_cons_succ, List.getElem?_cons_zero]; try rfl)
    case hQ65 => exact fun _ _ _ h => h
    case hy65 => exact Or.inr ⟨by rfl, rfl⟩
    (try simp only [Act.put, List.setIfInBounds_toArray, List.set_cons_zero, List.set_cons_succ])
    refine wpAnyH_take (i := 19) (oi := ?oi66) (v := undef) ?hi66 (by kernel_rfl) (by kernel_rfl) (by kernel_rfl) ?hQ66 ?hy66 (by assumption) ?hrest66
    case hi66 => (simp only [List.getElem?_toArray, List.getElem?_cons_succ, List.getElem?_cons_zero]; try rfl)
    case hQ66 => exact fun _ _ _ h => h
    case hy66 => exact Or.inr ⟨by rfl, rfl⟩
    (try simp only [Act.put, List.setIfInBounds_toArray, List.set_cons_zero, List.set_cons_succ])
    refine wpAnyH_take (i := 20) (oi := ?oi67) (v := undef) ?hi67 (by kernel_rfl) (by kernel_rfl) (by kernel_rfl) ?hQ67 ?hy67 (by assumption) ?hrest67
    case hi67 => (simp only [List.getElem?_toArray, List.getElem?_cons_succ, List.getElem?_cons_zero]; try rfl)
    case hQ67 => exact fun _ _ _ h => h
    case hy67 => exact Or.inr ⟨by rfl, rfl⟩
    (try simp only [Act.put, List.setIfInBounds_toArray, List.set_cons_zero, List.set_cons_succ])
    refine wpAnyH_take (i := 21) (oi := ?oi68) (v := undef) ?hi68 (by kernel_rfl) (by kernel_rfl) (by kernel_rfl) ?hQ68 ?hy68 (by assumption) ?hrest68
    case hi68 => (simp only [List.getElem?_toArray, List.getElem?_cons_succ, List.getElem?_cons_zero]; try rfl)
    case hQ68 => exact fun _ _ _ h => h
    case hy68 => exact Or.inr ⟨by rfl, rfl⟩
    (try simp only [Act.put, List.setIfInBounds_toArray, List.set_cons_zero, List.set_cons_succ])
    refine wpAnyH_take (i := 22) (oi := ?oi69) (v := undef) ?hi69 (by kernel_rfl) (by kernel_rfl) (by kernel_rfl) ?hQ69 ?hy69 (by assumption) ?hrest69
    case hi69 => (simp only [List.getElem?_toArray, List.getElem?_cons_succ, List.getElem?_cons_zero]; try rfl)
    case hQ69 => exact fun _ _ _ h => h
    case hy69 => exact Or.inr ⟨by rfl, rfl⟩
    (try simp only [Act.put, List.setIfInBounds_toArray, List.set_cons_zero, List.set_cons_succ])
    refine wpAnyH_take (i := 23) (oi := ?oi70) (v := ?v70) ?hi70 (by kernel_rfl) (by kernel_rfl) (by kernel_rfl) ?hQ70 ?hy70 (by assumption) ?hrest70
    case hi70 => (simp only [List.getElem?_toArray, List.getElem?_cons_succ, List.getElem?_cons_zero]; try rfl)
    case hQ70 => exact fun _ _ _ h => h
    case hy70 =>
      refine Or.inl ⟨by rfl, ?_⟩
      (intro wq hSw; (try dsimp only at hSw); go_simp; try with_reducible rfl)
    (try simp only [Act.put, List.setIfInBounds_toArray, List.set_cons_zero, List.set_cons_succ])
    refine wpAnyH_take (i := 24) (oi := ?oi71) (v := ?v71) ?hi71 (by kernel_rfl) (by kernel_rfl) (by kernel_rfl) ?hQ71 ?hy71 (by assumption) ?hrest71
    case hi71 => (simp only [List.getElem?_toArray, List.getElem?_cons_succ, List.getElem?_cons_zero]; try rfl)
    case hQ71 => exact fun _ _ _ h => h
    case hy71 =>
      refine Or.inl ⟨by rfl, ?_⟩
      (intro wq hSw; (try dsimp only at hSw); go_simp; try with_reducible rfl)
    (try simp only [Act.put, List.setIfInBounds_toArray, List.set_cons_zero, List.set_cons_succ])
    refine wpAnyH_take (i := 25) (oi := ?oi72) (v := ?v72) ?hi72 (by kernel_rfl) (by kernel_rfl) (by kernel_rfl) ?hQ72 ?hy72 (by assumption) ?hrest72
    case hi72 => (simp only [List.getElem?_toArray, List.getElem?_cons_succ, List.getElem?_cons_zero]; try rfl)
    case hQ72 => exact fun _ _ _ h => h
    case hy72 =>
      refine Or.inl ⟨by rfl, ?_⟩
      (intro wq hSw; (try dsimp only at hSw); go_simp; try with_reducible rfl)
    (try simp only [Act.put, List.setIfInBounds_toArray, List.set_cons_zero, List.set_cons_succ])
    refine wpAnyH_done (by kernel_rfl) ?_ _
    refine NoPanic.normal ?_
    ((go_wp2_with fail); go_ret; exact ⟨rfl, below_step b02 hHeld⟩)
  case true =>
    have h1 := hq6.out
    rw [bytesRp_ok hRp] at h1
    have j6 : (e6 != 0) = false := by rw [← (Prod.mk.inj h1).2]; rfl
    have hsm : sameR r.data s.data = decide (x5 = x6) := by rw [hx5.out, ← (Prod.mk.inj h1).1]; exact putR_inj hRr.out hRp ir is
    have KS1 := fun W (hW : Below w9.heap.size w9 W) => KSr.out W (hr.below hW) (hs.below hW)
    rw [hsm] at KS1
    have s1 := str_beq x5 x6
    generalize decide (x5 = x6) = dd at s1 KS1
    generalize str x5 = t5 at cv5 s1
    generalize str x6 = t6 at cv6 s1
    clear h1 KSr hsm
    replace hRp := hid hRp
    refine wp_region_noPanic ?_
    refine wp_region_held_drew (S := (fun W => Below w9.heap.size w9 W)) (by kernel_rfl) ?_ (fun hHeld => ?_)
    · exact (Below.refl _ _).drew
    refine wpAnyH_take (i := 0) (oi := ?oi73) (v := ?v73) ?hi73 (by kernel_rfl) (by kernel_rfl) (by kernel_rfl) ?hQ73 ?hy73 (by assumption) ?hrest73
    case hi73 => (simp only [List.getElem?_toArray, List.getElem?_cons_zero]; try rfl)
    case hQ73 => exact fun _ _ _ h => h
    case hy73 =>
      refine Or.inl ⟨by rfl, ?_⟩
      (intro wq hSw; (try dsimp only at hSw); go_simp; try with_reducible rfl)
    (try simp only [Act.put, List.setIfInBounds_toArray, List.set_cons_zero, List.set_cons_succ])
    refine wpAnyH_take (i := 1) (oi := ?oi74) (v := ?v74) ?hi74 (by kernel_rfl) (by kernel_rfl) (by kernel_rfl) ?hQ74 ?hy74 (by assumption) ?hrest74
    case hi74 => (simp only [List.getElem?_toArray, List.getElem?_cons_succ, List.getElem?_cons_zero]; try rfl)
    case hQ74 => exact fun _ _ _ h => h
    case hy74 =>
      refine Or.inl ⟨by rfl, ?_⟩
      (intro wq hSw; (try dsimp only at hSw); go_simp; try with_reducible rfl)
    (try simp only [Act.put, List.setIfInBounds_toArray, List.set_cons_zero, List.set_cons_succ])
    refine wpAnyH_take (i := 2) (oi := ?oi75) (v := ?v75) ?hi75 (by kernel_rfl) (by kernel_rfl) (by kernel_rfl) ?hQ75 ?hy75 (by assumption) ?hrest75
    case hi75 => (simp only [List.getElem?_toArray, List.getElem?_cons_succ, List.getElem?_cons_zero]; try rfl)
    case hQ75 => exact fun _ _ _ h => h
    case hy75 =>
      refine Or.inl ⟨by rfl, ?_⟩
      (intro wq hSw; (try dsimp only at hSw); go_simp; try with_reducible rfl)
    (try simp only [Act.put, List.setIfInBounds_toArray, List.set_cons_zero, List.set_cons_succ])
    refine wpAnyH_take (i := 3) (oi := ?oi76) (v := ?v76) ?hi76 (by kernel_rfl) (by kernel_rfl) (by kernel_rfl) ?hQ76 ?hy76 (by assumption) ?hrest76
    case hi76 => (simp only [List.getElem?_toArray, List.getElem?_cons_succ, List.getElem?_cons_zero]; try rfl)
    case hQ76 => exact fun _ _ _ h => h
    case hy76 =>
      refine Or.inl ⟨by rfl, ?_⟩
      (intro wq hSw; (try dsimp only at hSw); go_simp; try with_reducible rfl)
    (try simp only [Act.put, List.setIfInBounds_toArray, List.set_cons_zero, List.set_cons_succ])
    refine wpAnyH_take (i := 4) (oi := ?oi77) (v := ?v77) ?hi77 (by kernel_rfl) (by kernel_rfl) (by kernel_rfl) ?hQ77 ?hy77 (by assumption) ?hrest77
    case hi77 => (simp only [List.getElem?_toArray, List.getElem?_cons_succ, List.getElem?_cons_zero]; try rfl)
    case hQ77 => exact fun _ _ _ h => h
    case hy77 =>
      refine Or.inl ⟨by rfl, ?_⟩
      (intro wq hSw; (try dsimp only at hSw); go_simp; try with_reducible rfl)
    (try simp only [Act.put, List.setIfInBounds_toArray, List.set_cons_zero, List.set_cons_succ])
    refine wpAnyH_take (i := 5) (oi := ?oi78) (v := ?v78) ?hi78 (by kernel_rfl) (by kernel_rfl) (by kernel_rfl) ?hQ78 ?hy78 (by assumption) ?hrest78
    case hi78 => (simp only [List.getElem?_toArray, List.getElem?_cons_succ, List.getElem?_cons_zero]; try rfl)
    case hQ78 => exact fun _ _ _ h => h
    case hy78 =>
      refine Or.inl ⟨by rfl, ?_⟩
      (intro wq hSw; (try dsimp only at hSw); go_simp; try with_reducible rfl)
    (try simp only [Act.put, List.setIfInBounds_toArray, List.set_cons_zero, List.set_cons_succ])
    refine wpAnyH_take (i := 6) (oi := ?oi79) (v := ?v79) ?hi79 (by kernel_rfl) (by kernel_rfl) (by kernel_rfl) ?hQ79 ?hy79 (by assumption) ?hrest79
    case hi79 => (simp only [List.getElem?_toArray, List.getElem?_cons_succ, List.getElem?_cons_zero]; try rfl)
    case hQ79 => exact fun _ _ _ h => h
    case hy79 =>
      refine Or.inl ⟨by rfl, ?_⟩
      (intro wq hSw; (try dsimp only at hSw); go_simp; try with_reducible rfl)
    (try simp only [Act.put, List.setIfInBounds_toArray, List.set_cons_zero, List.set_cons_succ])
    refine wpAnyH_take (i := 7) (oi := ?oi80) (v := ?v80) ?hi80 (by kernel_rfl) (by kernel_rfl) (by kernel_rfl) ?hQ80 ?hy80 (by assumption) ?hrest80
    case hi80 => (simp only [List.getElem?_toArray, List.getElem?_cons_succ, List.getElem?_cons_zero]; try rfl)
    case hQ80 => exact fun _ _ _ h => h
    case hy80 =>
      refine Or.inl ⟨by rfl, ?_⟩
      (intro wq hSw; (try dsimp only at hSw); go_simp; try with_reducible rfl)
    (try simp only [Act.put, List.setIfInBounds_toArray, List.set_cons_zero, List.set_cons_succ])
    refine wpAnyH_ready (rs := [8]) (by kernel_rfl) (by simp) ?_
    refine AllReadyH.cons (o := ?oi81) ?hi81 (fun K hK => ?hstep81) AllReadyH.nil
    case hi81 => (simp only [List.getElem?_toArray, List.getElem?_cons_succ, List.getElem?_cons_zero]; try rfl)
    go_simp
    (refine (KB1 _ bcur).mono ?_; rintro e wx ⟨rfl, hbx⟩; have bcur := below_step bcur hbx)
    refine hK.out _ _ ?_ (fun hHeld => ?_)
    · exact below_step hHeld hbx
    clear hK K
    (try simp only [Act.put, List.setIfInBounds_toArray, List.set_cons_zero, List.set_cons_succ])
    refine wpAnyH_take (i := 9) (oi := ?oi82) (v := ?v82) ?hi82 (by kernel_rfl) (by kernel_rfl) (by kernel_rfl) ?hQ82 ?hy82 (by assumption) ?hrest82
    case hi82 => (simp only [List.getElem?_toArray, List.getElem?_cons_succ, List.getElem?_cons_zero]; try rfl)
    case hQ82 => exact fun _ _ _ h => h
    case hy82 =>
      refine Or.inl ⟨by rfl, ?_⟩
      (intro wq hSw; (try dsimp only at hSw); go_simp; try with_reducible rfl)
    (try simp only [Act.put, List.setIfInBounds_toArray, List.set_cons_zero, List.set_cons_succ])
    refine wpAnyH_take (i := 10) (oi := ?oi83) (v := ?v83) ?hi83 (by kernel_rfl) (by kernel_rfl) (by kernel_rfl) ?hQ83 ?hy83 (by assumption) ?hrest83
    case hi83 => (simp only [List.getElem?_toArray, List.getElem?_cons_succ, List.getElem?_cons_zero]; try rfl)
    case hQ83 => exact fun _ _ _ h => h
    case hy83 =>
      refine Or.inl ⟨by rfl, ?_⟩
      (intro wq hSw; (try dsimp only at hSw); go_simp; try with_reducible rfl)
    (try simp only [Act.put, List.setIfInBounds_toArray, List.set_cons_zero, List.set_cons_succ])
    refine wpAnyH_take (i := 11) (oi := ?oi84) (v := ?v84) ?hi84 (by kernel_rfl) (by kernel_rfl) (by kernel_rfl) ?hQ84 ?hy84 (by assumption) ?hrest84
    case hi84 => (simp only [List.getElem?_toArray, List.getElem?_cons_succ, List.getElem?_cons_zero]; try rfl)
    case hQ84 => exact fun _ _ _ h => h
    case hy84 =>
      refine Or.inl ⟨by rfl, ?_⟩
      (intro wq hSw; (try dsimp only at hSw); go_simp; try with_reducible rfl)
    (try simp only [Act.put, List.setIfInBounds_toArray, List.set_cons_zero, List.set_cons_succ])
    refine wpAnyH_take (i := 12) (oi := ?oi85) (v := ?v85) ?hi85 (by kernel_rfl) (by kernel_rfl) (by kernel_rfl) ?hQ85 ?hy85 (by assumption) ?hrest85
    case hi85 => (simp only [List.getElem?_toArray, List.getElem?_cons_succ, List.getElem?_cons_zero]; try rfl)
    case hQ85 => exact fun _ _ _ h => h
    case hy85 =>
      refine Or.inl ⟨by rfl, ?_⟩
      (intro wq hSw; (try dsimp only at hSw); go_simp; try with_reducible rfl)
    (try simp only [Act.put, List.setIfInBounds_toArray, List.set_cons_zero, List.set_cons_succ])
    refine wpAnyH_take (i := 13) (oi := ?oi86) (v := ?v86) ?hi86 (by kernel_rfl) (by kernel_rfl) (by kernel_rfl) ?hQ86 ?hy86 (by assumption) ?hrest86
    case hi86 => (simp only [List.getElem?_toArray, List.getElem?_cons_succ, List.getElem?_cons_zero]; try rfl)
    case hQ86 => exact fun _ _ _ h => h
    case hy86 =>
      refine Or.inl ⟨by rfl, ?_⟩
      (intro wq hSw; (try dsimp only at hSw); go_simp; try with_reducible rfl)
    (try simp only [Act.put, List.setIfInBounds_toArray, List.set_cons_zero, List.set_cons_succ])
    refine wpAnyH_take (i := 14) (oi := ?oi87) (v := ?v87) ?hi87 (by kernel_rfl) (by kernel_rfl) (by kernel_rfl) ?hQ87 ?hy87 (by assumption) ?hrest87
    case hi87 => (simp only [List.getElem?_toArray, List.getElem?_cons_succ, List.getElem?_cons_zero]; try rfl)
    case hQ87 => exact fun _ _ _ h => h
    case hy87 =>
      refine Or.inl ⟨by rfl, ?_⟩
      (intro wq hSw; (try dsimp only at hSw); go_simp; try with_reducible rfl)
    (try simp only [Act.put, List.setIfInBounds_toArray, List.set_cons_zero, List.set_cons_succ])
    refine wpAnyH_take (i := 15) (oi := ?oi88) (v := ?v88) ?hi88 (by kernel_rfl) (by kernel_rfl) (by kernel_rfl) ?hQ88 ?hy88 (by assumption) ?hrest88
    case hi88 => (simp only [List.getElem?_toArray, List.getElem?_cons_succ, List.getElem?_cons_zero]; try rfl)
    case hQ88 => exact fun _ _ _ h => h
    case hy88 =>
      refine Or.inl ⟨by rfl, ?_⟩
      (intro wq hSw; (try dsimp only at hSw); go_simp; try with_reducible rfl)
    (try simp only [Act.put, List.setIfInBounds_toArray, List.set_cons_zero, List.set_cons_succ])
    refine wpAnyH_take (i := 16) (oi := ?oi89) (v := ?v89) ?hi89 (by kernel_rfl) (by kernel_rfl) (by kernel_rfl) ?hQ89 ?hy89 (by assumption) ?hrest89
    case hi89 => (simp only [List.getElem?_toArray, List.getElem?_cons_succ, List.getElem?_cons_zero]; try rfl)
    case hQ89 => exact fun _ _ _ h => h
    case hy89 =>
      refine Or.inl ⟨by rfl, ?_⟩
      (intro wq hSw; (try dsimp only at hSw); go_simp; try with_reducible rfl)
    (try simp only [Act.put, List.setIfInBounds_toArray, List.set_cons_zero, List.set_cons_succ])
    refine wpAnyH_take (i := 17) (oi := ?oi90) (v := ?v90) ?hi90 (by kernel_rfl) (by kernel_rfl) (by kernel_rfl) ?hQ90 ?hy90 (by assumption) ?hrest90
    case hi90 => (simp only [List.getElem?_toArray, List.getElem?_cons_succ, List.getElem?_cons_zero]; try rfl)
    case hQ90 => exact fun _ _ _ h => h
    case hy90 =>
      refine Or.inl ⟨by rfl, ?_⟩
      (intro wq hSw; (try dsimp only at hSw); go_simp; try with_reducible rfl)
    (try simp only [Act.put, List.setIfInBounds_toArray, List.set_cons_zero, List.set_cons_succ])
    refine wpAnyH_take (i := 18) (oi := ?oi91) (v := ?v91) ?hi91 (by kernel_rfl) (by kernel_rfl) (by kernel_rfl) ?hQ91 ?hy91 (by assumption) ?hrest91
    case hi91 => (simp only [List.getElem?_toArray, List.getElem?_cons_succ, List.getElem?_cons_zero]; try rfl)
    case hQ91 => exact fun _ _ _ h => h
    case hy91 =>
      refine Or.inl ⟨by rfl, ?_⟩
      (intro wq hSw; (try dsimp only at hSw); go_simp; try with_reducible rfl)
    (try simp only [Act.put, List.setIfInBounds_toArray, List.set_cons_zero, List.set_cons_succ])
    refine wpAnyH_take (i := 19) (oi := ?oi92) (v := ?v92) ?hi92 (by kernel_rfl) (by kernel_rfl) (by kernel_rfl) ?hQ92 ?hy92 (by assumption) ?hrest92
    case hi92 => (simp only [List.getElem?_toArray, List.getElem?_cons_succ, List.getElem?_cons_zero]; try rfl)
    case hQ92 => exact fun _ _ _ h => h
    case hy92 =>
      refine Or.inl ⟨by rfl, ?_⟩
      (intro wq hSw; (try dsimp only at hSw); go_simp; try with_reducible rfl)
    (try simp only [Act.put, List.setIfInBounds_toArray, List.set_cons_zero, List.set_cons_succ])
    refine wpAnyH_take (i := 20) (oi := ?oi93) (v := ?v93) ?hi93 (by kernel_rfl) (by kernel_rfl) (by kernel_rfl) ?hQ93 ?hy93 (by assumption) ?hrest93
    case hi93 => (simp only [List.getElem?_toArray, List.getElem?_cons_succ, List.getElem?_cons_zero]; try rfl)
    case hQ93 => exact fun _ _ _ h => h
    case hy93 =>
      refine Or.inl ⟨by rfl, ?_⟩
      (intro wq hSw; (try dsimp only at hSw); go_simp; try with_reducible rfl)
    (try simp only [Act.put, List.setIfInBounds_toArray, List.set_cons_zero, List.set_cons_succ])
    refine wpAnyH_ready (rs := [21]) (by kernel_rfl) (by simp) ?_
    refine AllReadyH.cons (o := ?oi94) ?hi94 (fun K hK => ?hstep94) AllReadyH.nil
    case hi94 => (simp only [List.getElem?_toArray, List.getElem?_cons_succ, List.getElem?_cons_zero]; try rfl)
    go_simp
    (refine (KS1 _ bcur).mono ?_; rintro e wy ⟨rfl, hbx⟩; have bcur := below_step bcur hbx)
    refine hK.out _ _ ?_ (fun hHeld => ?_)
    · exact below_step hHeld hbx
    clear hK K
    (try simp only [Act.put, List.setIfInBounds_toArray, List.set_cons_zero, List.set_cons_succ])
    refine wpAnyH_take (i := 22) (oi := ?oi95) (v := ?v95) ?hi95 (by kernel_rfl) (by kernel_rfl) (by kernel_rfl) ?hQ95 ?hy95 (by assumption) ?hrest95
    case hi95 => (simp only [List.getElem?_toArray, List.getElem?_cons_succ, List.getElem?_cons_zero]; try rfl)
    case hQ95 => exact fun _ _ _ h => h
    case hy95 =>
      refine Or.inl ⟨by rfl, ?_⟩
      (intro wq hSw; (try dsimp only at hSw); go_simp; try with_reducible rfl)
    (try simp only [Act.put, List.setIfInBounds_toArray, List.set_cons_zero, List.set_cons_succ])
    refine wpAnyH_take (i := 23) (oi := ?oi96) (v := ?v96) ?hi96 (by kernel_rfl) (by kernel_rfl) (by kernel_rfl) ?hQ96 ?hy96 (by assumption) ?hrest96
    case hi96 => (simp only [List.getElem?_toArray, List.getElem?_cons_succ, List.getElem?_cons_zero]; try rfl)
    case hQ96 => exact fun _ _ _ h => h
    case hy96 =>
      refine Or.inl ⟨by rfl, ?_⟩
      (intro wq hSw; (try dsimp only at hSw); go_simp; try with_reducible rfl)
    (try simp only [Act.put, List.setIfInBounds_toArray, List.set_cons_zero, List.set_cons_succ])
    refine wpAnyH_take (i := 24) (oi := ?oi97) (v := ?v97) ?hi97 (by kernel_rfl) (by kernel_rfl) (by kernel_rfl) ?hQ97 ?hy97 (by assumption) ?hrest97
    case hi97 => (simp only [List.getElem?_toArray, List.getElem?_cons_succ, List.getElem?_cons_zero]; try rfl)
    case hQ97 => exact fun _ _ _ h => h
    case hy97 =>
      refine Or.inl ⟨by rfl, ?_⟩
      (intro wq hSw; (try dsimp only at hSw); go_simp; try with_reducible rfl)
    (try simp only [Act.put, List.setIfInBounds_toArray, List.set_cons_zero, List.set_cons_succ])
    refine wpAnyH_take (i := 25) (oi := ?oi98) (v := ?v98) ?hi98 (by kernel_rfl) (by kernel_rfl) (by kernel_rfl) ?hQ98 ?hy98 (by assumption) ?hrest98
    case hi98 => (simp only [List.getElem?_toArray, List.getElem?_cons_succ, List.getElem?_cons_zero]; try rfl)
    case hQ98 => exact fun _ _ _ h => h
    case hy98 =>
      refine Or.inl ⟨by rfl, ?_⟩
      (intro wq hSw; (try dsimp only at hSw); go_simp; try with_reducible rfl)
    (try simp only [Act.put, List.setIfInBounds_toArray, List.set_cons_zero, List.set_cons_succ])
    refine wpAnyH_done (by kernel_rfl) ?_ _
    refine NoPanic.normal ?_
    ((go_wp2_with fail); go_ret; exact ⟨by simp, below_step b02 hHeld⟩)
end Go.Proofs.Ytoceipdkmafagaa
