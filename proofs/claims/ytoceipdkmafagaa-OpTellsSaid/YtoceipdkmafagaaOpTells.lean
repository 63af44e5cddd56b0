import Derived.Test.YtoceipdkmafagaaOpS
import Derived.Test.YtoceipdkmafagaaOpHead
import Derived.Test.YtoceipdkmafagaaOpR
import Derived.Test.YtoceipdkmafagaaOpW
/-! OpTells: any operation's bytes, the operation of any bytes, and whether any is right, are the document's; so are a reply's, and the reply of any bytes. -/
namespace Go.Proofs.Ytoceipdkmafagaa
open Go.RowKit Go.Cov
set_option maxRecDepth 100000 in
set_option maxHeartbeats 25600000 in
theorem tells_law (o : Oa) (r : Ra) {w : World} (ho : OaOwn w o) (hr : RaRd w r) {A : Option Addr} {c : Nat} {l : List UInt8} (h : Rd w A (l.map byt)) (hc : l.length ≤ c) (hl : l.length ≤ 140737488351236) :
    Calls Try.prog 5 #[o.val, r.val, .slice A l.length c] w fun e w' => e = .returned (.bool true) ∧ Below w.heap.size w w' := by
  have hov : o.val = .agg #[.int .i64 o.k, .string (str o.n), .slice o.sA o.s.length o.sc, .string (str o.f), .slice o.aA o.a.length o.ac, .int .i64 o.g, .slice o.kA o.key.length o.kc] := rfl
  have hrv : r.val = .agg #[.int .i64 r.er, .int .i64 r.pl, .int .i64 r.v.c, .int .i64 r.v.r, .slice r.v.A r.v.op.length r.v.cap, .int .i64 r.tr, .int .i64 r.us, .bool r.fd, .slice r.tA r.t.length r.tc] := rfl
  have KG := great_any o
  have KP := fun W (hW : OaOwn W o) => put_any o hW.rd hW.sc hW.kc
  have KQ := fun W (hW : OaOwn W o) => rput_any o hW.rd
  have KR := fun W (hW : OaOwn W o) => right_any o hW.rd
  have KT := fun W (hW : OaOwn W o) => rright_any o hW.rd
  rw [hov] at KG KP KQ KR KT
  obtain ⟨⟨x5, e5⟩, hq5⟩ : ∃ q, bytesO o.data = q := ⟨_, rfl⟩
  rw [hq5] at KP KQ
  have KPr := fun W (hW : RaRd W r) => putreply_any r hW
  have KQr := fun W (hW : RaRd W r) => rputreply_any r hW
  rw [hrv] at KPr KQr
  obtain ⟨⟨x6, e6⟩, hq6⟩ : ∃ q, bytesRp r.data = q := ⟨_, rfl⟩
  rw [hq6] at KPr KQr
  dsimp only at KP KQ KPr KQr
  have K1 := fun W (hW : Rd W A (l.map byt)) => get_any hW hc hl
  have K2 := fun W (hW : Rd W A (l.map byt)) => rget_any hW hc hl
  have K3 := fun W (hW : Rd W A (l.map byt)) => getreply_any hW hc hl
  have K4 := fun W (hW : Rd W A (l.map byt)) => rgetreply_any hW hc hl
  obtain ⟨⟨d7, e7⟩, hq7⟩ : ∃ q, readO l = q := ⟨_, rfl⟩
  rw [hq7] at K1 K2
  obtain ⟨⟨d8, e8⟩, hq8⟩ : ∃ q, readR l = q := ⟨_, rfl⟩
  rw [hq8] at K3 K4
  obtain ⟨ro, hro⟩ : ∃ ro, rightO o.data = ro := ⟨_, rfl⟩
  rw [hro] at KR KT
  clear hq5 hq6 hq7 hq8 hro
  rw [hov, hrv]
  clear hov hrv
  replace KG := hid KG
  replace KP := hid KP
  replace KQ := hid KQ
  replace KR := hid KR
  replace KT := hid KT
  replace KPr := hid KPr
  replace KQr := hid KQr
  replace K1 := hid K1
  replace K2 := hid K2
  replace K3 := hid K3
  replace K4 := hid K4
  go_enter Try.func5, Try.ntmps5
  have bx0 := below_alloc w (.cells #[.int .i64 o.k, .string (str o.n), .slice o.sA o.s.length o.sc, .string (str o.f), .slice o.aA o.a.length o.ac, .int .i64 o.g, .slice o.kA o.key.length o.kc] 25)
  have Ro := Row.new w [.int .i64 o.k, .string (str o.n), .slice o.sA o.s.length o.sc, .string (str o.f), .slice o.aA o.a.length o.ac, .int .i64 o.g, .slice o.kA o.key.length o.kc] 25
  obtain ⟨wx0, hwx0⟩ : ∃ W, W = w.alloc (.cells #[.int .i64 o.k, .string (str o.n), .slice o.sA o.s.length o.sc, .string (str o.f), .slice o.aA o.a.length o.ac, .int .i64 o.g, .slice o.kA o.key.length o.kc] 25) := ⟨_, rfl⟩
  have nx0 : wx0.heap.size = w.heap.size + 1 := by rw [hwx0]; simp
  rw [← hwx0] at bx0 Ro
  have bx1 := below_alloc wx0 (.cells #[.int .i64 r.er, .int .i64 r.pl, .int .i64 r.v.c, .int .i64 r.v.r, .slice r.v.A r.v.op.length r.v.cap, .int .i64 r.tr, .int .i64 r.us, .bool r.fd, .slice r.tA r.t.length r.tc] 34)
  have Rr := Row.new wx0 [.int .i64 r.er, .int .i64 r.pl, .int .i64 r.v.c, .int .i64 r.v.r, .slice r.v.A r.v.op.length r.v.cap, .int .i64 r.tr, .int .i64 r.us, .bool r.fd, .slice r.tA r.t.length r.tc] 34
  replace Ro := Ro.below bx1
  rw [nx0] at Rr
  go_upto_region 1 with fail
  rw [← hwx0]
  clear hwx0
  generalize wx0.alloc _ = w2 at bx1 Ro Rr ⊢
  have b02 := below_step bx0 bx1
  clear bx0 bx1 nx0
  replace ho := ho.below b02
  replace hr := hr.below b02
  replace h := h.below b02
  go_wp2_with fail
  refine (head_any w2).mono ?_
  rintro e w3 ⟨rfl, hb3⟩
  replace b02 := below_step b02 hb3
  replace Ro := Ro.below hb3
  replace Rr := Rr.below hb3
  replace ho := ho.below hb3
  replace hr := hr.below hb3
  replace h := h.below hb3
  have C0 := (Ro.2 0 _ rfl).1
  have C1 := (Ro.2 1 _ rfl).1
  have C2 := (Ro.2 2 _ rfl).1
  have C3 := (Ro.2 3 _ rfl).1
  have C4 := (Ro.2 4 _ rfl).1
  have C5 := (Ro.2 5 _ rfl).1
  have C6 := (Ro.2 6 _ rfl).1
  go_wp2_with fail
  refine (KG.out w3).mono ?_
  rintro e w4 ⟨gr, rfl, hb4⟩
  replace b02 := below_step b02 hb4
  clear C0 C1 C2 C3 C4 C5 C6
  replace Ro := Ro.below hb4
  replace Rr := Rr.below hb4
  replace ho := ho.below hb4
  replace hr := hr.below hb4
  replace h := h.below hb4
  cases gr
  case true =>
    go_wp2_with fail
    go_ret
    exact ⟨rfl, b02⟩
  have C0 := (Ro.2 0 _ rfl).1
  have C1 := (Ro.2 1 _ rfl).1
  have C2 := (Ro.2 2 _ rfl).1
  have C3 := (Ro.2 3 _ rfl).1
  have C4 := (Ro.2 4 _ rfl).1
  have C5 := (Ro.2 5 _ rfl).1
  have C6 := (Ro.2 6 _ rfl).1
  go_wp2_with fail
  refine (KP.out w4 ho).mono ?_
  rintro e w5 ⟨v5, rfl, own5, hb5⟩
  replace b02 := below_step b02 hb5
  obtain ⟨A5, c5, rfl, hc5, _⟩ := own_shape own5
  clear C0 C1 C2 C3 C4 C5 C6
  replace Ro := Ro.below hb5
  replace Rr := Rr.below hb5
  replace ho := ho.below hb5
  replace hr := hr.below hb5
  replace h := h.below hb5
  have C0 := (Ro.2 0 _ rfl).1
  have C1 := (Ro.2 1 _ rfl).1
  have C2 := (Ro.2 2 _ rfl).1
  have C3 := (Ro.2 3 _ rfl).1
  have C4 := (Ro.2 4 _ rfl).1
  have C5 := (Ro.2 5 _ rfl).1
  have C6 := (Ro.2 6 _ rfl).1
  go_wp2_with fail
  refine (KQ.out w5 ho).mono ?_
  rintro e w6 ⟨v6, rfl, own6, hb6⟩
  replace b02 := below_step b02 hb6
  obtain ⟨A6, c6, rfl, hc6, _⟩ := own_shape own6
  replace own5 := own_below own5 hb6
  clear C0 C1 C2 C3 C4 C5 C6
  replace Ro := Ro.below hb6
  replace Rr := Rr.below hb6
  replace ho := ho.below hb6
  replace hr := hr.below hb6
  replace h := h.below hb6
  go_wp2_with fail
  refine (K1.out w6 h).mono ?_
  rintro e w6x ⟨p, rfl, dp, hp, hbb⟩
  have pv : p.val = .agg #[.int .i64 p.k, .string (str p.n), .slice p.sA p.s.length p.sc, .string (str p.f), .slice p.aA p.a.length p.ac, .int .i64 p.g, .slice p.kA p.key.length p.kc] := rfl
  have bx := below_alloc w6x (.cells #[.int .i64 p.k, .string (str p.n), .slice p.sA p.s.length p.sc, .string (str p.f), .slice p.aA p.a.length p.ac, .int .i64 p.g, .slice p.kA p.key.length p.kc] 25)
  have Rp := Row.new w6x [.int .i64 p.k, .string (str p.n), .slice p.sA p.s.length p.sc, .string (str p.f), .slice p.aA p.a.length p.ac, .int .i64 p.g, .slice p.kA p.key.length p.kc] 25
  rw [pv]
  go_upto_region 7 with fail
  generalize w6x.alloc _ = w6y at bx Rp ⊢
  have hb := below_step hbb bx
  replace b02 := below_step b02 hb
  replace hp := hp.below bx
  replace pv := hid pv
  replace dp := hid dp
  clear hbb bx
  replace own5 := own_below own5 hb
  replace own6 := own_below own6 hb
  replace Ro := Ro.below hb
  replace Rr := Rr.below hb
  replace ho := ho.below hb
  replace hr := hr.below hb
  replace h := h.below hb
  clear hb
  go_wp2_with fail
  refine (K2.out w6y h).mono ?_
  rintro e w6yx ⟨q, rfl, dq, hq, hbb⟩
  have qv : q.val = .agg #[.int .i64 q.k, .string (str q.n), .slice q.sA q.s.length q.sc, .string (str q.f), .slice q.aA q.a.length q.ac, .int .i64 q.g, .slice q.kA q.key.length q.kc] := rfl
  have bx := below_alloc w6yx (.cells #[.int .i64 q.k, .string (str q.n), .slice q.sA q.s.length q.sc, .string (str q.f), .slice q.aA q.a.length q.ac, .int .i64 q.g, .slice q.kA q.key.length q.kc] 25)
  have Rq := Row.new w6yx [.int .i64 q.k, .string (str q.n), .slice q.sA q.s.length q.sc, .string (str q.f), .slice q.aA q.a.length q.ac, .int .i64 q.g, .slice q.kA q.key.length q.kc] 25
  rw [qv]
  go_upto_region 8 with fail
  generalize w6yx.alloc _ = w6yy at bx Rq ⊢
  have hb := below_step hbb bx
  replace b02 := below_step b02 hb
  replace hq := hq.below bx
  replace qv := hid qv
  replace dq := hid dq
  clear hbb bx
  replace own5 := own_below own5 hb
  replace own6 := own_below own6 hb
  replace Ro := Ro.below hb
  replace Rr := Rr.below hb
  replace Rp := Rp.below hb
  replace ho := ho.below hb
  replace hr := hr.below hb
  replace h := h.below hb
  replace hp := hp.below hb
  clear hb
  have KS := fun W (hW : Below w6yy.heap.size w6yy W) => same_any p q (hp.rd.below hW) (hq.rd.below hW)
  rw [sameO_iff.2 (dp.out.trans dq.out.symm), pv.out, qv.out] at KS
  have KR1 := fun W (hW : Below w6yy.heap.size w6yy W) => KR.out W (ho.below hW)
  have KT1 := fun W (hW : Below w6yy.heap.size w6yy W) => KT.out W (ho.below hW)
  have ko0 := fun W (hW : Below w6yy.heap.size w6yy W) => cell_on hW (Ro.2 0 _ rfl).1
  have ko1 := fun W (hW : Below w6yy.heap.size w6yy W) => cell_on hW (Ro.2 1 _ rfl).1
  have ko2 := fun W (hW : Below w6yy.heap.size w6yy W) => cell_on hW (Ro.2 2 _ rfl).1
  have ko3 := fun W (hW : Below w6yy.heap.size w6yy W) => cell_on hW (Ro.2 3 _ rfl).1
  have ko4 := fun W (hW : Below w6yy.heap.size w6yy W) => cell_on hW (Ro.2 4 _ rfl).1
  have ko5 := fun W (hW : Below w6yy.heap.size w6yy W) => cell_on hW (Ro.2 5 _ rfl).1
  have ko6 := fun W (hW : Below w6yy.heap.size w6yy W) => cell_on hW (Ro.2 6 _ rfl).1
  have kp0 := fun W (hW : Below w6yy.heap.size w6yy W) => cell_on hW (Rp.2 0 _ rfl).1
  have kp1 := fun W (hW : Below w6yy.heap.size w6yy W) => cell_on hW (Rp.2 1 _ rfl).1
  have kp2 := fun W (hW : Below w6yy.heap.size w6yy W) => cell_on hW (Rp.2 2 _ rfl).1
  have kp3 := fun W (hW : Below w6yy.heap.size w6yy W) => cell_on hW (Rp.2 3 _ rfl).1
  have kp4 := fun W (hW : Below w6yy.heap.size w6yy W) => cell_on hW (Rp.2 4 _ rfl).1
  have kp5 := fun W (hW : Below w6yy.heap.size w6yy W) => cell_on hW (Rp.2 5 _ rfl).1
  have kp6 := fun W (hW : Below w6yy.heap.size w6yy W) => cell_on hW (Rp.2 6 _ rfl).1
  have kq0 := fun W (hW : Below w6yy.heap.size w6yy W) => cell_on hW (Rq.2 0 _ rfl).1
  have kq1 := fun W (hW : Below w6yy.heap.size w6yy W) => cell_on hW (Rq.2 1 _ rfl).1
  have kq2 := fun W (hW : Below w6yy.heap.size w6yy W) => cell_on hW (Rq.2 2 _ rfl).1
  have kq3 := fun W (hW : Below w6yy.heap.size w6yy W) => cell_on hW (Rq.2 3 _ rfl).1
  have kq4 := fun W (hW : Below w6yy.heap.size w6yy W) => cell_on hW (Rq.2 4 _ rfl).1
  have kq5 := fun W (hW : Below w6yy.heap.size w6yy W) => cell_on hW (Rq.2 5 _ rfl).1
  have kq6 := fun W (hW : Below w6yy.heap.size w6yy W) => cell_on hW (Rq.2 6 _ rfl).1
  have cv5 := fun W (hW : Below w6yy.heap.size w6yy W) => conv_text W ((own_rd own5).below hW) c5
  have cv6 := fun W (hW : Below w6yy.heap.size w6yy W) => conv_text W ((own_rd own6).below hW) c6
  go_cut [16] (fun s16 wx => s16 = .bool true ∧ Below w6yy.heap.size w6yy wx)
  case first =>
    have bcur := (Below.refl w6yy.heap.size w6yy).drew
    refine wp_region_noPanic ?_
    refine wp_region_held_drew (S := (fun W => Below w6yy.heap.size w6yy W)) (by kernel_rfl) ?_ (fun hHeld => ?_)
    · exact (Below.refl _ _).drew
    refine wpAnyH_take (i := 0) (oi := ?oi1) (v := ?v1) ?hi1 (by kernel_rfl) (by kernel_rfl) (by kernel_rfl) ?hQ1 ?hy1 (by assumption) ?hrest1
    case hi1 => (simp only [List.getElem?_toArray, List.getElem?_cons_zero]; try rfl)
    case hQ1 => exact fun _ _ _ h => h
    case hy1 =>
      refine Or.inl ⟨by rfl, ?_⟩
      (intro wq hSw; (try dsimp only at hSw); go_simp; try with_reducible rfl)
    (try simp only [Act.put, List.setIfInBounds_toArray, List.set_cons_zero, List.set_cons_succ])
    refine wpAnyH_take (i := 1) (oi := ?oi2) (v := ?v2) ?hi2 (by kernel_rfl) (by kernel_rfl) (by kernel_rfl) ?hQ2 ?hy2 (by assumption) ?hrest2
    case hi2 => (simp only [List.getElem?_toArray, List.getElem?_cons_succ, List.getElem?_cons_zero]; try rfl)
    case hQ2 => exact fun _ _ _ h => h
    case hy2 =>
      refine Or.inl ⟨by rfl, ?_⟩
      (intro wq hSw; (try dsimp only at hSw); go_simp; try with_reducible rfl)
    (try simp only [Act.put, List.setIfInBounds_toArray, List.set_cons_zero, List.set_cons_succ])
    refine wpAnyH_take (i := 2) (oi := ?oi3) (v := ?v3) ?hi3 (by kernel_rfl) (by kernel_rfl) (by kernel_rfl) ?hQ3 ?hy3 (by assumption) ?hrest3
    case hi3 => (simp only [List.getElem?_toArray, List.getElem?_cons_succ, List.getElem?_cons_zero]; try rfl)
    case hQ3 => exact fun _ _ _ h => h
    case hy3 =>
      refine Or.inl ⟨by rfl, ?_⟩
      (intro wq hSw; (try dsimp only at hSw); go_simp; try with_reducible rfl)
    (try simp only [Act.put, List.setIfInBounds_toArray, List.set_cons_zero, List.set_cons_succ])
    refine wpAnyH_take (i := 3) (oi := ?oi4) (v := ?v4) ?hi4 (by kernel_rfl) (by kernel_rfl) (by kernel_rfl) ?hQ4 ?hy4 (by assumption) ?hrest4
    case hi4 => (simp only [List.getElem?_toArray, List.getElem?_cons_succ, List.getElem?_cons_zero]; try rfl)
    case hQ4 => exact fun _ _ _ h => h
    case hy4 =>
      refine Or.inl ⟨by rfl, ?_⟩
      (intro wq hSw; (try dsimp only at hSw); go_simp; try with_reducible rfl)
    (try simp only [Act.put, List.setIfInBounds_toArray, List.set_cons_zero, List.set_cons_succ])
    refine wpAnyH_take (i := 4) (oi := ?oi5) (v := ?v5) ?hi5 (by kernel_rfl) (by kernel_rfl) (by kernel_rfl) ?hQ5 ?hy5 (by assumption) ?hrest5
    case hi5 => (simp only [List.getElem?_toArray, List.getElem?_cons_succ, List.getElem?_cons_zero]; try rfl)
    case hQ5 => exact fun _ _ _ h => h
    case hy5 =>
      refine Or.inl ⟨by rfl, ?_⟩
      (intro wq hSw; (try dsimp only at hSw); go_simp; try with_reducible rfl)
    (try simp only [Act.put, List.setIfInBounds_toArray, List.set_cons_zero, List.set_cons_succ])
    refine wpAnyH_take (i := 5) (oi := ?oi6) (v := ?v6) ?hi6 (by kernel_rfl) (by kernel_rfl) (by kernel_rfl) ?hQ6 ?hy6 (by assumption) ?hrest6
    case hi6 => (simp only [List.getElem?_toArray, List.getElem?_cons_succ, List.getElem?_cons_zero]; try rfl)
    case hQ6 => exact fun _ _ _ h => h
    case hy6 =>
      refine Or.inl ⟨by rfl, ?_⟩
      (intro wq hSw; (try dsimp only at hSw); go_simp; try with_reducible rfl)
    (try simp only [Act.put, List.setIfInBounds_toArray, List.set_cons_zero, List.set_cons_succ])
    refine wpAnyH_take (i := 6) (oi := ?oi7) (v := ?v7) ?hi7 (by kernel_rfl) (by kernel_rfl) (by kernel_rfl) ?hQ7 ?hy7 (by assumption) ?hrest7
    case hi7 => (simp only [List.getElem?_toArray, List.getElem?_cons_succ, List.getElem?_cons_zero]; try rfl)
    case hQ7 => exact fun _ _ _ h => h
    case hy7 =>
      refine Or.inl ⟨by rfl, ?_⟩
      (intro wq hSw; (try dsimp only at hSw); go_simp; try with_reducible rfl)
    (try simp only [Act.put, List.setIfInBounds_toArray, List.set_cons_zero, List.set_cons_succ])
    refine wpAnyH_take (i := 7) (oi := ?oi8) (v := ?v8) ?hi8 (by kernel_rfl) (by kernel_rfl) (by kernel_rfl) ?hQ8 ?hy8 (by assumption) ?hrest8
    case hi8 => (simp only [List.getElem?_toArray, List.getElem?_cons_succ, List.getElem?_cons_zero]; try rfl)
    case hQ8 => exact fun _ _ _ h => h
    case hy8 =>
      refine Or.inl ⟨by rfl, ?_⟩
      (intro wq hSw; (try dsimp only at hSw); go_simp; try with_reducible rfl)
    (try simp only [Act.put, List.setIfInBounds_toArray, List.set_cons_zero, List.set_cons_succ])
    refine wpAnyH_take (i := 8) (oi := ?oi9) (v := ?v9) ?hi9 (by kernel_rfl) (by kernel_rfl) (by kernel_rfl) ?hQ9 ?hy9 (by assumption) ?hrest9
    case hi9 => (simp only [List.getElem?_toArray, List.getElem?_cons_succ, List.getElem?_cons_zero]; try rfl)
    case hQ9 => exact fun _ _ _ h => h
    case hy9 =>
      refine Or.inl ⟨by rfl, ?_⟩
      (intro wq hSw; (try dsimp only at hSw); go_simp; try with_reducible rfl)
    (try simp only [Act.put, List.setIfInBounds_toArray, List.set_cons_zero, List.set_cons_succ])
    refine wpAnyH_take (i := 9) (oi := ?oi10) (v := ?v10) ?hi10 (by kernel_rfl) (by kernel_rfl) (by kernel_rfl) ?hQ10 ?hy10 (by assumption) ?hrest10
    case hi10 => (simp only [List.getElem?_toArray, List.getElem?_cons_succ, List.getElem?_cons_zero]; try rfl)
    case hQ10 => exact fun _ _ _ h => h
    case hy10 =>
      refine Or.inl ⟨by rfl, ?_⟩
      (intro wq hSw; (try dsimp only at hSw); go_simp; try with_reducible rfl)
    (try simp only [Act.put, List.setIfInBounds_toArray, List.set_cons_zero, List.set_cons_succ])
    refine wpAnyH_take (i := 10) (oi := ?oi11) (v := ?v11) ?hi11 (by kernel_rfl) (by kernel_rfl) (by kernel_rfl) ?hQ11 ?hy11 (by assumption) ?hrest11
    case hi11 => (simp only [List.getElem?_toArray, List.getElem?_cons_succ, List.getElem?_cons_zero]; try rfl)
    case hQ11 => exact fun _ _ _ h => h
    case hy11 =>
      refine Or.inl ⟨by rfl, ?_⟩
      (intro wq hSw; (try dsimp only at hSw); go_simp; try with_reducible rfl)
    (try simp only [Act.put, List.setIfInBounds_toArray, List.set_cons_zero, List.set_cons_succ])
    refine wpAnyH_take (i := 11) (oi := ?oi12) (v := ?v12) ?hi12 (by kernel_rfl) (by kernel_rfl) (by kernel_rfl) ?hQ12 ?hy12 (by assumption) ?hrest12
    case hi12 => (simp only [List.getElem?_toArray, List.getElem?_cons_succ, List.getElem?_cons_zero]; try rfl)
    case hQ12 => exact fun _ _ _ h => h
    case hy12 =>
      refine Or.inl ⟨by rfl, ?_⟩
      (intro wq hSw; (try dsimp only at hSw); go_simp; try with_reducible rfl)
    (try simp only [Act.put, List.setIfInBounds_toArray, List.set_cons_zero, List.set_cons_succ])
    refine wpAnyH_take (i := 12) (oi := ?oi13) (v := ?v13) ?hi13 (by kernel_rfl) (by kernel_rfl) (by kernel_rfl) ?hQ13 ?hy13 (by assumption) ?hrest13
    case hi13 => (simp only [List.getElem?_toArray, List.getElem?_cons_succ, List.getElem?_cons_zero]; try rfl)
    case hQ13 => exact fun _ _ _ h => h
    case hy13 =>
      refine Or.inl ⟨by rfl, ?_⟩
      (intro wq hSw; (try dsimp only at hSw); go_simp; try with_reducible rfl)
    (try simp only [Act.put, List.setIfInBounds_toArray, List.set_cons_zero, List.set_cons_succ])
    refine wpAnyH_ready (rs := [13]) (by kernel_rfl) (by simp) ?_
    refine AllReadyH.cons (o := ?oi14) ?hi14 (fun K hK => ?hstep14) AllReadyH.nil
    case hi14 => (simp only [List.getElem?_toArray, List.getElem?_cons_succ, List.getElem?_cons_zero]; try rfl)
    go_simp
    (refine (KS _ bcur).mono ?_; rintro e wx ⟨rfl, hbx⟩; have bcur := below_step bcur hbx)
    refine hK.out _ _ ?_ (fun hHeld => ?_)
    · exact below_step hHeld hbx
    clear hK K
    (try simp only [Act.put, List.setIfInBounds_toArray, List.set_cons_zero, List.set_cons_succ])
    refine wpAnyH_take (i := 14) (oi := ?oi15) (v := ?v15) ?hi15 (by kernel_rfl) (by kernel_rfl) (by kernel_rfl) ?hQ15 ?hy15 (by assumption) ?hrest15
    case hi15 => (simp only [List.getElem?_toArray, List.getElem?_cons_succ, List.getElem?_cons_zero]; try rfl)
    case hQ15 => exact fun _ _ _ h => h
    case hy15 =>
      refine Or.inl ⟨by rfl, ?_⟩
      (intro wq hSw; (try dsimp only at hSw); go_simp; try with_reducible rfl)
    (try simp only [Act.put, List.setIfInBounds_toArray, List.set_cons_zero, List.set_cons_succ])
    refine wpAnyH_take (i := 15) (oi := ?oi16) (v := ?v16) ?hi16 (by kernel_rfl) (by kernel_rfl) (by kernel_rfl) ?hQ16 ?hy16 (by assumption) ?hrest16
    case hi16 => (simp only [List.getElem?_toArray, List.getElem?_cons_succ, List.getElem?_cons_zero]; try rfl)
    case hQ16 => exact fun _ _ _ h => h
    case hy16 =>
      refine Or.inl ⟨by rfl, ?_⟩
      (intro wq hSw; (try dsimp only at hSw); go_simp; try with_reducible rfl)
    (try simp only [Act.put, List.setIfInBounds_toArray, List.set_cons_zero, List.set_cons_succ])
    refine wpAnyH_take (i := 16) (oi := ?oi17) (v := ?v17) ?hi17 (by kernel_rfl) (by kernel_rfl) (by kernel_rfl) ?hQ17 ?hy17 (by assumption) ?hrest17
    case hi17 => (simp only [List.getElem?_toArray, List.getElem?_cons_succ, List.getElem?_cons_zero]; try rfl)
    case hQ17 => exact fun _ _ _ h => h
    case hy17 =>
      refine Or.inl ⟨by rfl, ?_⟩
      (intro wq hSw; (try dsimp only at hSw); go_simp; try with_reducible rfl)
    (try simp only [Act.put, List.setIfInBounds_toArray, List.set_cons_zero, List.set_cons_succ])
    refine wpAnyH_take (i := 17) (oi := ?oi18) (v := ?v18) ?hi18 (by kernel_rfl) (by kernel_rfl) (by kernel_rfl) ?hQ18 ?hy18 (by assumption) ?hrest18
    case hi18 => (simp only [List.getElem?_toArray, List.getElem?_cons_succ, List.getElem?_cons_zero]; try rfl)
    case hQ18 => exact fun _ _ _ h => h
    case hy18 =>
      refine Or.inl ⟨by rfl, ?_⟩
      (intro wq hSw; (try dsimp only at hSw); go_simp; try with_reducible rfl)
    (try simp only [Act.put, List.setIfInBounds_toArray, List.set_cons_zero, List.set_cons_succ])
    refine wpAnyH_take (i := 18) (oi := ?oi19) (v := ?v19) ?hi19 (by kernel_rfl) (by kernel_rfl) (by kernel_rfl) ?hQ19 ?hy19 (by assumption) ?hrest19
    case hi19 => (simp only [List.getElem?_toArray, List.getElem?_cons_succ, List.getElem?_cons_zero]; try rfl)
    case hQ19 => exact fun _ _ _ h => h
    case hy19 =>
      refine Or.inl ⟨by rfl, ?_⟩
      (intro wq hSw; (try dsimp only at hSw); go_simp; try with_reducible rfl)
    (try simp only [Act.put, List.setIfInBounds_toArray, List.set_cons_zero, List.set_cons_succ])
    refine wpAnyH_take (i := 19) (oi := ?oi20) (v := ?v20) ?hi20 (by kernel_rfl) (by kernel_rfl) (by kernel_rfl) ?hQ20 ?hy20 (by assumption) ?hrest20
    case hi20 => (simp only [List.getElem?_toArray, List.getElem?_cons_succ, List.getElem?_cons_zero]; try rfl)
    case hQ20 => exact fun _ _ _ h => h
    case hy20 =>
      refine Or.inl ⟨by rfl, ?_⟩
      (intro wq hSw; (try dsimp only at hSw); go_simp; try with_reducible rfl)
    (try simp only [Act.put, List.setIfInBounds_toArray, List.set_cons_zero, List.set_cons_succ])
    refine wpAnyH_take (i := 20) (oi := ?oi21) (v := ?v21) ?hi21 (by kernel_rfl) (by kernel_rfl) (by kernel_rfl) ?hQ21 ?hy21 (by assumption) ?hrest21
    case hi21 => (simp only [List.getElem?_toArray, List.getElem?_cons_succ, List.getElem?_cons_zero]; try rfl)
    case hQ21 => exact fun _ _ _ h => h
    case hy21 =>
      refine Or.inl ⟨by rfl, ?_⟩
      (intro wq hSw; (try dsimp only at hSw); go_simp; try with_reducible rfl)
    (try simp only [Act.put, List.setIfInBounds_toArray, List.set_cons_zero, List.set_cons_succ])
    refine wpAnyH_take (i := 21) (oi := ?oi22) (v := ?v22) ?hi22 (by kernel_rfl) (by kernel_rfl) (by kernel_rfl) ?hQ22 ?hy22 (by assumption) ?hrest22
    case hi22 => (simp only [List.getElem?_toArray, List.getElem?_cons_succ, List.getElem?_cons_zero]; try rfl)
    case hQ22 => exact fun _ _ _ h => h
    case hy22 =>
      refine Or.inl ⟨by rfl, ?_⟩
      (intro wq hSw; (try dsimp only at hSw); go_simp; try with_reducible rfl)
    (try simp only [Act.put, List.setIfInBounds_toArray, List.set_cons_zero, List.set_cons_succ])
    refine wpAnyH_take (i := 23) (oi := ?oi23) (v := ?v23) ?hi23 (by kernel_rfl) (by kernel_rfl) (by kernel_rfl) ?hQ23 ?hy23 (by assumption) ?hrest23
    case hi23 => (simp only [List.getElem?_toArray, List.getElem?_cons_succ, List.getElem?_cons_zero]; try rfl)
    case hQ23 => exact fun _ _ _ h => h
    case hy23 =>
      refine Or.inl ⟨by rfl, ?_⟩
      (intro wq hSw; (try dsimp only at hSw); go_simp; try with_reducible rfl)
    (try simp only [Act.put, List.setIfInBounds_toArray, List.set_cons_zero, List.set_cons_succ])
    refine wpAnyH_ready (rs := [22]) (by kernel_rfl) (by simp) ?_
    refine AllReadyH.cons (o := ?oi24) ?hi24 (fun K hK => ?hstep24) AllReadyH.nil
    case hi24 => (simp only [List.getElem?_toArray, List.getElem?_cons_succ, List.getElem?_cons_zero]; try rfl)
    go_simp
    (refine (KR1 _ bcur).mono ?_; rintro e wy ⟨rfl, hbx⟩; have bcur := below_step bcur hbx)
    refine hK.out _ _ ?_ (fun hHeld => ?_)
    · exact below_step hHeld hbx
    clear hK K
    (try simp only [Act.put, List.setIfInBounds_toArray, List.set_cons_zero, List.set_cons_succ])
    refine wpAnyH_ready (rs := [24]) (by kernel_rfl) (by simp) ?_
    refine AllReadyH.cons (o := ?oi25) ?hi25 (fun K hK => ?hstep25) AllReadyH.nil
    case hi25 => (simp only [List.getElem?_toArray, List.getElem?_cons_succ, List.getElem?_cons_zero]; try rfl)
    go_simp
    (refine (KT1 _ bcur).mono ?_; rintro e wz ⟨rfl, hbx⟩; have bcur := below_step bcur hbx)
    refine hK.out _ _ ?_ (fun hHeld => ?_)
    · exact below_step hHeld hbx
    clear hK K
    (try simp only [Act.put, List.setIfInBounds_toArray, List.set_cons_zero, List.set_cons_succ])
    refine wpAnyH_take (i := 25) (oi := ?oi26) (v := ?v26) ?hi26 (by kernel_rfl) (by kernel_rfl) (by kernel_rfl) ?hQ26 ?hy26 (by assumption) ?hrest26
    case hi26 => (simp only [List.getElem?_toArray, List.getElem?_cons_succ, List.getElem?_cons_zero]; try rfl)
    case hQ26 => exact fun _ _ _ h => h
    case hy26 =>
      refine Or.inl ⟨by rfl, ?_⟩
      (intro wq hSw; (try dsimp only at hSw); go_simp; try with_reducible rfl)
    (try simp only [Act.put, List.setIfInBounds_toArray, List.set_cons_zero, List.set_cons_succ])
    refine wpAnyH_take (i := 26) (oi := ?oi27) (v := ?v27) ?hi27 (by kernel_rfl) (by kernel_rfl) (by kernel_rfl) ?hQ27 ?hy27 (by assumption) ?hrest27
    case hi27 => (simp only [List.getElem?_toArray, List.getElem?_cons_succ, List.getElem?_cons_zero]; try rfl)
    case hQ27 => exact fun _ _ _ h => h
    case hy27 =>
      refine Or.inl ⟨by rfl, ?_⟩
      (intro wq hSw; (try dsimp only at hSw); go_simp; try with_reducible rfl)
    (try simp only [Act.put, List.setIfInBounds_toArray, List.set_cons_zero, List.set_cons_succ])
    refine wpAnyH_take (i := 27) (oi := ?oi28) (v := ?v28) ?hi28 (by kernel_rfl) (by kernel_rfl) (by kernel_rfl) ?hQ28 ?hy28 (by assumption) ?hrest28
    case hi28 => (simp only [List.getElem?_toArray, List.getElem?_cons_succ, List.getElem?_cons_zero]; try rfl)
    case hQ28 => exact fun _ _ _ h => h
    case hy28 =>
      refine Or.inl ⟨by rfl, ?_⟩
      (intro wq hSw; (try dsimp only at hSw); go_simp; try with_reducible rfl)
    (try simp only [Act.put, List.setIfInBounds_toArray, List.set_cons_zero, List.set_cons_succ])
    refine wpAnyH_done (by kernel_rfl) ?_ _
    refine NoPanic.normal ?_
    ((go_wp2_with fail); go_meet; exact ⟨by simp, hHeld⟩)
  case rest =>
  clear KS KR1 KT1 cv5 cv6 own5 own6 ko0 ko1 ko2 ko3 ko4 ko5 ko6 kp0 kp1 kp2 kp3 kp4 kp5 kp6 kq0 kq1 kq2 kq3 kq4 kq5 kq6 Ro Rp Rq ho hp hq dp dq pv qv
  obtain ⟨rfl, hcut⟩ := hcut
  replace Rr := Rr.below hcut
  replace hr := hr.below hcut
  replace h := h.below hcut
  replace b02 := below_step b02 hcut
  have D0 := (Rr.2 0 _ rfl).1
  have D1 := (Rr.2 1 _ rfl).1
  have D2 := (Rr.2 2 _ rfl).1
  have D3 := (Rr.2 3 _ rfl).1
  have D4 := (Rr.2 4 _ rfl).1
  have D5 := (Rr.2 5 _ rfl).1
  have D6 := (Rr.2 6 _ rfl).1
  have D7 := (Rr.2 7 _ rfl).1
  have D8 := (Rr.2 8 _ rfl).1
  go_wp2_with fail
  refine (KPr.out wc hr).mono ?_
  rintro e w5 ⟨v5, rfl, own5, hb5⟩
  replace b02 := below_step b02 hb5
  obtain ⟨A5, c5, rfl, hc5, _⟩ := own_shape own5
  clear D0 D1 D2 D3 D4 D5 D6 D7 D8
  replace Rr := Rr.below hb5
  replace hr := hr.below hb5
  replace h := h.below hb5
  have D0 := (Rr.2 0 _ rfl).1
  have D1 := (Rr.2 1 _ rfl).1
  have D2 := (Rr.2 2 _ rfl).1
  have D3 := (Rr.2 3 _ rfl).1
  have D4 := (Rr.2 4 _ rfl).1
  have D5 := (Rr.2 5 _ rfl).1
  have D6 := (Rr.2 6 _ rfl).1
  have D7 := (Rr.2 7 _ rfl).1
  have D8 := (Rr.2 8 _ rfl).1
  go_wp2_with fail
  refine (KQr.out w5 hr).mono ?_
  rintro e w6 ⟨v6, rfl, own6, hb6⟩
  replace b02 := below_step b02 hb6
  obtain ⟨A6, c6, rfl, hc6, _⟩ := own_shape own6
  replace own5 := own_below own5 hb6
  clear D0 D1 D2 D3 D4 D5 D6 D7 D8
  replace Rr := Rr.below hb6
  replace hr := hr.below hb6
  replace h := h.below hb6
  go_wp2_with fail
  refine (K3.out w6 h).mono ?_
  rintro e w6x ⟨p, rfl, dp, hp, hbb⟩
  have pv : p.val = .agg #[.int .i64 p.er, .int .i64 p.pl, .int .i64 p.v.c, .int .i64 p.v.r, .slice p.v.A p.v.op.length p.v.cap, .int .i64 p.tr, .int .i64 p.us, .bool p.fd, .slice p.tA p.t.length p.tc] := rfl
  have bx := below_alloc w6x (.cells #[.int .i64 p.er, .int .i64 p.pl, .int .i64 p.v.c, .int .i64 p.v.r, .slice p.v.A p.v.op.length p.v.cap, .int .i64 p.tr, .int .i64 p.us, .bool p.fd, .slice p.tA p.t.length p.tc] 34)
  have Rp := Row.new w6x [.int .i64 p.er, .int .i64 p.pl, .int .i64 p.v.c, .int .i64 p.v.r, .slice p.v.A p.v.op.length p.v.cap, .int .i64 p.tr, .int .i64 p.us, .bool p.fd, .slice p.tA p.t.length p.tc] 34
  rw [pv]
  go_upto_region 12 with fail
  generalize w6x.alloc _ = w6y at bx Rp ⊢
  have hb := below_step hbb bx
  replace b02 := below_step b02 hb
  replace hp := hp.below bx
  replace pv := hid pv
  replace dp := hid dp
  clear hbb bx
  replace own5 := own_below own5 hb
  replace own6 := own_below own6 hb
  replace Rr := Rr.below hb
  replace hr := hr.below hb
  replace h := h.below hb
  clear hb
  go_wp2_with fail
  refine (K4.out w6y h).mono ?_
  rintro e w6yx ⟨q, rfl, dq, hq, hbb⟩
  have qv : q.val = .agg #[.int .i64 q.er, .int .i64 q.pl, .int .i64 q.v.c, .int .i64 q.v.r, .slice q.v.A q.v.op.length q.v.cap, .int .i64 q.tr, .int .i64 q.us, .bool q.fd, .slice q.tA q.t.length q.tc] := rfl
  have bx := below_alloc w6yx (.cells #[.int .i64 q.er, .int .i64 q.pl, .int .i64 q.v.c, .int .i64 q.v.r, .slice q.v.A q.v.op.length q.v.cap, .int .i64 q.tr, .int .i64 q.us, .bool q.fd, .slice q.tA q.t.length q.tc] 34)
  have Rq := Row.new w6yx [.int .i64 q.er, .int .i64 q.pl, .int .i64 q.v.c, .int .i64 q.v.r, .slice q.v.A q.v.op.length q.v.cap, .int .i64 q.tr, .int .i64 q.us, .bool q.fd, .slice q.tA q.t.length q.tc] 34
  rw [qv]
  go_upto_region 13 with fail
  generalize w6yx.alloc _ = w6yy at bx Rq ⊢
  have hb := below_step hbb bx
  replace b02 := below_step b02 hb
  replace hq := hq.below bx
  replace qv := hid qv
  replace dq := hid dq
  clear hbb bx
  replace own5 := own_below own5 hb
  replace own6 := own_below own6 hb
  replace Rr := Rr.below hb
  replace Rp := Rp.below hb
  replace hr := hr.below hb
  replace h := h.below hb
  replace hp := hp.below hb
  clear hb
  have KS := samereply_any p q hp hq
  rw [sameR_iff.2 (dp.out.trans dq.out.symm), pv.out, qv.out] at KS
  have cv5 := conv_text w6yy (own_rd own5) c5
  have cv6 := conv_text w6yy (own_rd own6) c6
  have P0 := (Rp.2 0 _ rfl).1
  have P1 := (Rp.2 1 _ rfl).1
  have P2 := (Rp.2 2 _ rfl).1
  have P3 := (Rp.2 3 _ rfl).1
  have P4 := (Rp.2 4 _ rfl).1
  have P5 := (Rp.2 5 _ rfl).1
  have P6 := (Rp.2 6 _ rfl).1
  have P7 := (Rp.2 7 _ rfl).1
  have P8 := (Rp.2 8 _ rfl).1
  have Q0 := (Rq.2 0 _ rfl).1
  have Q1 := (Rq.2 1 _ rfl).1
  have Q2 := (Rq.2 2 _ rfl).1
  have Q3 := (Rq.2 3 _ rfl).1
  have Q4 := (Rq.2 4 _ rfl).1
  have Q5 := (Rq.2 5 _ rfl).1
  have Q6 := (Rq.2 6 _ rfl).1
  have Q7 := (Rq.2 7 _ rfl).1
  have Q8 := (Rq.2 8 _ rfl).1
  go_wp2_with fail
  refine KS.mono ?_
  rintro e w9 ⟨rfl, hb⟩
  go_wp2_with fail
  go_ret
  exact ⟨by simp, below_step b02 hb⟩
end Go.Proofs.Ytoceipdkmafagaa
