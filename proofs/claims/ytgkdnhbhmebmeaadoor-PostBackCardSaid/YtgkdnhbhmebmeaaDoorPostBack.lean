import Derived.Test.YtgkdnhbhmebmeaaDoorPostSizes
import Derived.Test.YtgkdnhbhmebmeaaDoorPlain1
/-! PostBack: what may be sent is read as it was; unlike messages have unlike bytes behind the sum. -/
namespace Go.Proofs.YtgkdnhbhmebmeaaDoor
open Go.RowKit Go.Cov
theorem putM_inj {m n : MD} (h1 : rightM m = true) (h2 : rightM n = true) (i1 : intM m) (i2 : intM n) : decide (putM m = putM n) = sameM m n := by
  rw [Bool.eq_iff_iff, decide_eq_true_eq, sameM_iff]
  constructor
  · intro h
    have e1 := msg_back h1 i1
    rw [h, msg_back h2 i2] at e1
    exact (Prod.mk.inj e1).1.symm
  · rintro rfl; rfl
theorem right_small {o : Ma} (h : rightM o.data = true) : o.es.length ≤ 100000 := by
  unfold rightM rightLog at h
  simp only [Bool.and_eq_true, decide_eq_true_eq] at h
  have := h.1.1.2.1.2.1
  unfold Ma.data at this
  simp only [List.length_map] at this
  omega
set_option maxRecDepth 100000 in
set_option maxHeartbeats 12800000 in
theorem back_law (o p : Ma) {w : World} (ho : MaRd w o) (hp : MaRd w p) (io : intM o.data) (ip : intM p.data) (ht : Tab w) :
    Calls Tryd.prog 4 #[o.val, p.val] w fun e w' => e = .returned (.bool true) ∧ Below w.heap.size w w' := by
  have hov : o.val = .agg #[.int .i64 o.n.1, .int .i64 o.n.2.1, .int .i64 o.n.2.2.1, .int .i64 o.n.2.2.2.1, .int .i64 o.n.2.2.2.2.1, .int .i64 o.n.2.2.2.2.2.1, .int .i64 o.n.2.2.2.2.2.2.1, .int .i64 o.n.2.2.2.2.2.2.2.1, .int .i64 o.n.2.2.2.2.2.2.2.2.1, .int .i64 o.n.2.2.2.2.2.2.2.2.2, .slice o.bA o.b.length o.bc, .bool o.has, .int .i64 o.st, .slice o.eA o.es.length o.ec, .slice o.kA o.chk.length o.kc] := rfl
  have hpv : p.val = .agg #[.int .i64 p.n.1, .int .i64 p.n.2.1, .int .i64 p.n.2.2.1, .int .i64 p.n.2.2.2.1, .int .i64 p.n.2.2.2.2.1, .int .i64 p.n.2.2.2.2.2.1, .int .i64 p.n.2.2.2.2.2.2.1, .int .i64 p.n.2.2.2.2.2.2.2.1, .int .i64 p.n.2.2.2.2.2.2.2.2.1, .int .i64 p.n.2.2.2.2.2.2.2.2.2, .slice p.bA p.b.length p.bc, .bool p.has, .int .i64 p.st, .slice p.eA p.es.length p.ec, .slice p.kA p.chk.length p.kc] := rfl
  have KG := great_any o
  have KH := great_any p
  have KP := fun W (hW : MaRd W o) (tW : Tab W) => putmsg_any o hW tW
  have KQ := fun W (hW : MaRd W p) (tW : Tab W) => putmsg_any p hW tW
  have KR := fun W (hW : MaRd W o) => pright_any hW
  have KS := fun (x : Ma) W (hx : MaRd W x) (hW : MaRd W o) hz => msame_any x o hx hW hz
  have KT := fun W (hW : MaRd W o) (hV : MaRd W p) hz => msame_any o p hW hV hz
  rw [hov] at KG KP KR KT
  simp only [hov] at KS
  rw [hpv] at KH KQ KT
  rw [hov, hpv]
  clear hov hpv
  have b0 := below_alloc w (.cells #[.int .i64 o.n.1, .int .i64 o.n.2.1, .int .i64 o.n.2.2.1, .int .i64 o.n.2.2.2.1, .int .i64 o.n.2.2.2.2.1, .int .i64 o.n.2.2.2.2.2.1, .int .i64 o.n.2.2.2.2.2.2.1, .int .i64 o.n.2.2.2.2.2.2.2.1, .int .i64 o.n.2.2.2.2.2.2.2.2.1, .int .i64 o.n.2.2.2.2.2.2.2.2.2, .slice o.bA o.b.length o.bc, .bool o.has, .int .i64 o.st, .slice o.eA o.es.length o.ec, .slice o.kA o.chk.length o.kc] 28)
  have R0 := Row.new w [.int .i64 o.n.1, .int .i64 o.n.2.1, .int .i64 o.n.2.2.1, .int .i64 o.n.2.2.2.1, .int .i64 o.n.2.2.2.2.1, .int .i64 o.n.2.2.2.2.2.1, .int .i64 o.n.2.2.2.2.2.2.1, .int .i64 o.n.2.2.2.2.2.2.2.1, .int .i64 o.n.2.2.2.2.2.2.2.2.1, .int .i64 o.n.2.2.2.2.2.2.2.2.2, .slice o.bA o.b.length o.bc, .bool o.has, .int .i64 o.st, .slice o.eA o.es.length o.ec, .slice o.kA o.chk.length o.kc] 28
  change Row (w.alloc (.cells #[.int .i64 o.n.1, .int .i64 o.n.2.1, .int .i64 o.n.2.2.1, .int .i64 o.n.2.2.2.1, .int .i64 o.n.2.2.2.2.1, .int .i64 o.n.2.2.2.2.2.1, .int .i64 o.n.2.2.2.2.2.2.1, .int .i64 o.n.2.2.2.2.2.2.2.1, .int .i64 o.n.2.2.2.2.2.2.2.2.1, .int .i64 o.n.2.2.2.2.2.2.2.2.2, .slice o.bA o.b.length o.bc, .bool o.has, .int .i64 o.st, .slice o.eA o.es.length o.ec, .slice o.kA o.chk.length o.kc] 28)) _ _ at R0
  obtain ⟨w1, hw1⟩ : ∃ w1, w1 = w.alloc (.cells #[.int .i64 o.n.1, .int .i64 o.n.2.1, .int .i64 o.n.2.2.1, .int .i64 o.n.2.2.2.1, .int .i64 o.n.2.2.2.2.1, .int .i64 o.n.2.2.2.2.2.1, .int .i64 o.n.2.2.2.2.2.2.1, .int .i64 o.n.2.2.2.2.2.2.2.1, .int .i64 o.n.2.2.2.2.2.2.2.2.1, .int .i64 o.n.2.2.2.2.2.2.2.2.2, .slice o.bA o.b.length o.bc, .bool o.has, .int .i64 o.st, .slice o.eA o.es.length o.ec, .slice o.kA o.chk.length o.kc] 28) := ⟨_, rfl⟩
  have n1 : w1.heap.size = w.heap.size + 1 := by rw [hw1, size_alloc1]
  rw [← hw1] at b0 R0
  have bq := below_alloc w1 (.cells #[.int .i64 p.n.1, .int .i64 p.n.2.1, .int .i64 p.n.2.2.1, .int .i64 p.n.2.2.2.1, .int .i64 p.n.2.2.2.2.1, .int .i64 p.n.2.2.2.2.2.1, .int .i64 p.n.2.2.2.2.2.2.1, .int .i64 p.n.2.2.2.2.2.2.2.1, .int .i64 p.n.2.2.2.2.2.2.2.2.1, .int .i64 p.n.2.2.2.2.2.2.2.2.2, .slice p.bA p.b.length p.bc, .bool p.has, .int .i64 p.st, .slice p.eA p.es.length p.ec, .slice p.kA p.chk.length p.kc] 28)
  have R1 := Row.new w1 [.int .i64 p.n.1, .int .i64 p.n.2.1, .int .i64 p.n.2.2.1, .int .i64 p.n.2.2.2.1, .int .i64 p.n.2.2.2.2.1, .int .i64 p.n.2.2.2.2.2.1, .int .i64 p.n.2.2.2.2.2.2.1, .int .i64 p.n.2.2.2.2.2.2.2.1, .int .i64 p.n.2.2.2.2.2.2.2.2.1, .int .i64 p.n.2.2.2.2.2.2.2.2.2, .slice p.bA p.b.length p.bc, .bool p.has, .int .i64 p.st, .slice p.eA p.es.length p.ec, .slice p.kA p.chk.length p.kc] 28
  change Row (w1.alloc (.cells #[.int .i64 p.n.1, .int .i64 p.n.2.1, .int .i64 p.n.2.2.1, .int .i64 p.n.2.2.2.1, .int .i64 p.n.2.2.2.2.1, .int .i64 p.n.2.2.2.2.2.1, .int .i64 p.n.2.2.2.2.2.2.1, .int .i64 p.n.2.2.2.2.2.2.2.1, .int .i64 p.n.2.2.2.2.2.2.2.2.1, .int .i64 p.n.2.2.2.2.2.2.2.2.2, .slice p.bA p.b.length p.bc, .bool p.has, .int .i64 p.st, .slice p.eA p.es.length p.ec, .slice p.kA p.chk.length p.kc] 28)) _ _ at R1
  rw [n1] at R1
  obtain ⟨gr, hgr⟩ : ∃ g, greatB o = g := ⟨_, rfl⟩
  rw [hgr] at KG
  obtain ⟨gs, hgs⟩ : ∃ g, greatB p = g := ⟨_, rfl⟩
  rw [hgs] at KH
  replace hgr := hid hgr
  replace hgs := hid hgs
  replace n1 := hid n1
  replace KG := hid KG
  replace KH := hid KH
  replace KP := hid KP
  replace KQ := hid KQ
  replace KR := hid KR
  replace KS := hid KS
  replace KT := hid KT
  go_enter Tryd.func4, Tryd.ntmps4
  go_upto_region 1 with fail
  rw [← hw1]
  clear hw1
  replace R0 := R0.below bq
  generalize w1.alloc (.cells #[.int .i64 p.n.1, .int .i64 p.n.2.1, .int .i64 p.n.2.2.1, .int .i64 p.n.2.2.2.1, .int .i64 p.n.2.2.2.2.1, .int .i64 p.n.2.2.2.2.2.1, .int .i64 p.n.2.2.2.2.2.2.1, .int .i64 p.n.2.2.2.2.2.2.2.1, .int .i64 p.n.2.2.2.2.2.2.2.2.1, .int .i64 p.n.2.2.2.2.2.2.2.2.2, .slice p.bA p.b.length p.bc, .bool p.has, .int .i64 p.st, .slice p.eA p.es.length p.ec, .slice p.kA p.chk.length p.kc] 28) = w2 at bq R0 R1 ⊢
  replace b0 := below_step b0 bq
  clear bq
  replace ho := ho.below b0
  replace hp := hp.below b0
  replace ht := ht.below b0
  go_wp2_with fail
  refine (head_any w2 ht).mono ?_
  rintro e w3 ⟨rfl, hb⟩
  replace R0 := R0.below hb
  replace R1 := R1.below hb
  replace ho := ho.below hb
  replace hp := hp.below hb
  replace ht := ht.below hb
  replace b0 := below_step b0 hb
  have C0 := (R0.2 0 _ rfl).1
  have C1 := (R0.2 1 _ rfl).1
  have C2 := (R0.2 2 _ rfl).1
  have C3 := (R0.2 3 _ rfl).1
  have C4 := (R0.2 4 _ rfl).1
  have C5 := (R0.2 5 _ rfl).1
  have C6 := (R0.2 6 _ rfl).1
  have C7 := (R0.2 7 _ rfl).1
  have C8 := (R0.2 8 _ rfl).1
  have C9 := (R0.2 9 _ rfl).1
  have C10 := (R0.2 10 _ rfl).1
  have C11 := (R0.2 11 _ rfl).1
  have C12 := (R0.2 12 _ rfl).1
  have C13 := (R0.2 13 _ rfl).1
  have C14 := (R0.2 14 _ rfl).1
  go_wp2_with fail
  refine (KG.out w3).mono ?_
  rintro e w4 ⟨rfl, hb⟩
  clear C0 C1 C2 C3 C4 C5 C6 C7 C8 C9 C10 C11 C12 C13 C14
  replace R0 := R0.below hb
  replace R1 := R1.below hb
  replace ho := ho.below hb
  replace hp := hp.below hb
  replace ht := ht.below hb
  replace b0 := below_step b0 hb
  cases gr
  case true =>
    go_wp2_with fail
    go_ret
    exact ⟨rfl, b0⟩
  have D0 := (R1.2 0 _ rfl).1
  have D1 := (R1.2 1 _ rfl).1
  have D2 := (R1.2 2 _ rfl).1
  have D3 := (R1.2 3 _ rfl).1
  have D4 := (R1.2 4 _ rfl).1
  have D5 := (R1.2 5 _ rfl).1
  have D6 := (R1.2 6 _ rfl).1
  have D7 := (R1.2 7 _ rfl).1
  have D8 := (R1.2 8 _ rfl).1
  have D9 := (R1.2 9 _ rfl).1
  have D10 := (R1.2 10 _ rfl).1
  have D11 := (R1.2 11 _ rfl).1
  have D12 := (R1.2 12 _ rfl).1
  have D13 := (R1.2 13 _ rfl).1
  have D14 := (R1.2 14 _ rfl).1
  go_wp2_with fail
  refine (KH.out w4).mono ?_
  rintro e w5 ⟨rfl, hb⟩
  clear D0 D1 D2 D3 D4 D5 D6 D7 D8 D9 D10 D11 D12 D13 D14
  replace R0 := R0.below hb
  replace R1 := R1.below hb
  replace ho := ho.below hb
  replace hp := hp.below hb
  replace ht := ht.below hb
  replace b0 := below_step b0 hb
  cases gs
  case true =>
    go_wp2_with fail
    go_ret
    exact ⟨rfl, b0⟩
  clear KG KH
  have gq := (greatB_no hgr.out).1
  have C0 := (R0.2 0 _ rfl).1
  have C1 := (R0.2 1 _ rfl).1
  have C2 := (R0.2 2 _ rfl).1
  have C3 := (R0.2 3 _ rfl).1
  have C4 := (R0.2 4 _ rfl).1
  have C5 := (R0.2 5 _ rfl).1
  have C6 := (R0.2 6 _ rfl).1
  have C7 := (R0.2 7 _ rfl).1
  have C8 := (R0.2 8 _ rfl).1
  have C9 := (R0.2 9 _ rfl).1
  have C10 := (R0.2 10 _ rfl).1
  have C11 := (R0.2 11 _ rfl).1
  have C12 := (R0.2 12 _ rfl).1
  have C13 := (R0.2 13 _ rfl).1
  have C14 := (R0.2 14 _ rfl).1
  as_aux_lemma =>
  have K := KP.out w5 ho ht
  obtain ⟨⟨x, e6⟩, hq⟩ : ∃ q, bytesM o.data = q := ⟨_, rfl⟩
  rw [hq] at K
  replace hq := hid hq
  dsimp only at K
  go_wp2_with fail
  refine K.mono ?_
  rintro e w6 ⟨v6, rfl, own6, hb⟩
  clear K KP
  clear C0 C1 C2 C3 C4 C5 C6 C7 C8 C9 C10 C11 C12 C13 C14
  replace R0 := R0.below hb
  replace R1 := R1.below hb
  replace ho := ho.below hb
  replace hp := hp.below hb
  replace ht := ht.below hb
  replace b0 := below_step b0 hb
  obtain ⟨A6, c6, rfl, hc6, hm6, _⟩ := own_shape own6
  have hx := own_rd own6
  clear own6
  have D0 := (R1.2 0 _ rfl).1
  have D1 := (R1.2 1 _ rfl).1
  have D2 := (R1.2 2 _ rfl).1
  have D3 := (R1.2 3 _ rfl).1
  have D4 := (R1.2 4 _ rfl).1
  have D5 := (R1.2 5 _ rfl).1
  have D6 := (R1.2 6 _ rfl).1
  have D7 := (R1.2 7 _ rfl).1
  have D8 := (R1.2 8 _ rfl).1
  have D9 := (R1.2 9 _ rfl).1
  have D10 := (R1.2 10 _ rfl).1
  have D11 := (R1.2 11 _ rfl).1
  have D12 := (R1.2 12 _ rfl).1
  have D13 := (R1.2 13 _ rfl).1
  have D14 := (R1.2 14 _ rfl).1
  have K := KQ.out w6 hp ht
  obtain ⟨⟨y, f6⟩, hq2⟩ : ∃ q, bytesM p.data = q := ⟨_, rfl⟩
  rw [hq2] at K
  replace hq2 := hid hq2
  dsimp only at K
  go_wp2_with fail
  refine K.mono ?_
  rintro e w7 ⟨v7, rfl, own7, hb⟩
  clear K KQ
  clear D0 D1 D2 D3 D4 D5 D6 D7 D8 D9 D10 D11 D12 D13 D14
  replace R0 := R0.below hb
  replace R1 := R1.below hb
  replace ho := ho.below hb
  replace hp := hp.below hb
  replace ht := ht.below hb
  replace b0 := below_step b0 hb
  replace hx := hx.below hb
  obtain ⟨A7, c7, rfl, hc7, hm7, _⟩ := own_shape own7
  have hy := own_rd own7
  clear own7
  have C0 := (R0.2 0 _ rfl).1
  have C1 := (R0.2 1 _ rfl).1
  have C2 := (R0.2 2 _ rfl).1
  have C3 := (R0.2 3 _ rfl).1
  have C4 := (R0.2 4 _ rfl).1
  have C5 := (R0.2 5 _ rfl).1
  have C6 := (R0.2 6 _ rfl).1
  have C7 := (R0.2 7 _ rfl).1
  have C8 := (R0.2 8 _ rfl).1
  have C9 := (R0.2 9 _ rfl).1
  have C10 := (R0.2 10 _ rfl).1
  have C11 := (R0.2 11 _ rfl).1
  have C12 := (R0.2 12 _ rfl).1
  have C13 := (R0.2 13 _ rfl).1
  have C14 := (R0.2 14 _ rfl).1
  as_aux_lemma =>
  have K := KR.out w7 ho
  cases hR : rightM o.data
  case false =>
    rw [hR] at K
    have h1 := hq.out
    rw [bytesM_no hR] at h1
    obtain ⟨rfl, rfl⟩ := Prod.mk.inj h1
    clear h1 hq
    replace hR := hid hR
    dsimp only [List.length_nil] at hc6 ⊢
    go_wp2_with fail
    refine K.mono ?_
    rintro e w8 ⟨rfl, hb⟩
    replace R0 := R0.below hb
    replace R1 := R1.below hb
    replace ho := ho.below hb
    replace hp := hp.below hb
    replace ht := ht.below hb
    replace b0 := below_step b0 hb
    clear C0 C1 C2 C3 C4 C5 C6 C7 C8 C9 C10 C11 C12 C13 C14
    go_wp2_with fail
    go_ret
    exact ⟨rfl, b0⟩
  rw [hR] at K
  have h1 := hq.out
  rw [bytesM_ok hR] at h1
  obtain ⟨hxe, rfl⟩ := Prod.mk.inj h1
  clear h1 hq
  have hbk := readS_back hR io
  rw [hxe] at hbk
  have hrl := rightM_len hR
  have hxl : x.length = 4 + (putM o.data).length := by rw [← hxe, sealed_length]
  have hx4 : x.drop 4 = putM o.data := by rw [← hxe]; rfl
  have hpl : (putM o.data).length ≤ 1000000 := by
    have h1 := entsN_all o
    have h2 := entsB_le (o.es.map En.data) hrl.2.2.2 o.es.length
    rw [hxe, hxl] at h1
    unfold entsN at h1
    omega
  have hxn : 4 ≤ x.length ∧ x.length ≤ 1000004 := by omega
  replace hxl := hid hxl
  replace hxe := hid hxe
  replace hx4 := hid hx4
  replace hbk := hid hbk
  replace hrl := hid hrl
  replace hR := hid hR
  go_wp2_with fail
  refine K.mono ?_
  rintro e w8 ⟨rfl, hb⟩
  clear K KR
  clear C0 C1 C2 C3 C4 C5 C6 C7 C8 C9 C10 C11 C12 C13 C14
  replace R0 := R0.below hb
  replace R1 := R1.below hb
  replace ho := ho.below hb
  replace hp := hp.below hb
  replace ht := ht.below hb
  replace b0 := below_step b0 hb
  replace hx := hx.below hb
  replace hy := hy.below hb
  have K := getmsg_any hx hc6 (by omega) ht
  rw [hbk.out] at K
  dsimp only at K
  replace K := hid K
  go_wp2_with fail
  refine K.out.mono ?_
  rintro e w9 ⟨q, rfl, hqd, hqr, hb⟩
  clear K
  replace R0 := R0.below hb
  replace R1 := R1.below hb
  replace ho := ho.below hb
  replace hp := hp.below hb
  replace ht := ht.below hb
  replace b0 := below_step b0 hb
  replace hx := hx.below hb
  replace hy := hy.below hb
  have KU := KS.out q
  have hqv : q.val = .agg #[.int .i64 q.n.1, .int .i64 q.n.2.1, .int .i64 q.n.2.2.1, .int .i64 q.n.2.2.2.1, .int .i64 q.n.2.2.2.2.1, .int .i64 q.n.2.2.2.2.2.1, .int .i64 q.n.2.2.2.2.2.2.1, .int .i64 q.n.2.2.2.2.2.2.2.1, .int .i64 q.n.2.2.2.2.2.2.2.2.1, .int .i64 q.n.2.2.2.2.2.2.2.2.2, .slice q.bA q.b.length q.bc, .bool q.has, .int .i64 q.st, .slice q.eA q.es.length q.ec, .slice q.kA q.chk.length q.kc] := rfl
  rw [hqv] at KU ⊢
  clear hqv KS
  replace KU := hid KU
  replace hqd := hid hqd
  have bq := below_alloc w9 (.cells #[.int .i64 q.n.1, .int .i64 q.n.2.1, .int .i64 q.n.2.2.1, .int .i64 q.n.2.2.2.1, .int .i64 q.n.2.2.2.2.1, .int .i64 q.n.2.2.2.2.2.1, .int .i64 q.n.2.2.2.2.2.2.1, .int .i64 q.n.2.2.2.2.2.2.2.1, .int .i64 q.n.2.2.2.2.2.2.2.2.1, .int .i64 q.n.2.2.2.2.2.2.2.2.2, .slice q.bA q.b.length q.bc, .bool q.has, .int .i64 q.st, .slice q.eA q.es.length q.ec, .slice q.kA q.chk.length q.kc] 28)
  have R2 := Row.new w9 [.int .i64 q.n.1, .int .i64 q.n.2.1, .int .i64 q.n.2.2.1, .int .i64 q.n.2.2.2.1, .int .i64 q.n.2.2.2.2.1, .int .i64 q.n.2.2.2.2.2.1, .int .i64 q.n.2.2.2.2.2.2.1, .int .i64 q.n.2.2.2.2.2.2.2.1, .int .i64 q.n.2.2.2.2.2.2.2.2.1, .int .i64 q.n.2.2.2.2.2.2.2.2.2, .slice q.bA q.b.length q.bc, .bool q.has, .int .i64 q.st, .slice q.eA q.es.length q.ec, .slice q.kA q.chk.length q.kc] 28
  replace bq := hid bq
  replace R2 := hid R2
  go_upto_region 11 with fail
  replace bq := bq.out
  replace R2 := R2.out
  change Row (w9.alloc (.cells #[.int .i64 q.n.1, .int .i64 q.n.2.1, .int .i64 q.n.2.2.1, .int .i64 q.n.2.2.2.1, .int .i64 q.n.2.2.2.2.1, .int .i64 q.n.2.2.2.2.2.1, .int .i64 q.n.2.2.2.2.2.2.1, .int .i64 q.n.2.2.2.2.2.2.2.1, .int .i64 q.n.2.2.2.2.2.2.2.2.1, .int .i64 q.n.2.2.2.2.2.2.2.2.2, .slice q.bA q.b.length q.bc, .bool q.has, .int .i64 q.st, .slice q.eA q.es.length q.ec, .slice q.kA q.chk.length q.kc] 28)) _ _ at R2
  generalize w9.alloc (.cells #[.int .i64 q.n.1, .int .i64 q.n.2.1, .int .i64 q.n.2.2.1, .int .i64 q.n.2.2.2.1, .int .i64 q.n.2.2.2.2.1, .int .i64 q.n.2.2.2.2.2.1, .int .i64 q.n.2.2.2.2.2.2.1, .int .i64 q.n.2.2.2.2.2.2.2.1, .int .i64 q.n.2.2.2.2.2.2.2.2.1, .int .i64 q.n.2.2.2.2.2.2.2.2.2, .slice q.bA q.b.length q.bc, .bool q.has, .int .i64 q.st, .slice q.eA q.es.length q.ec, .slice q.kA q.chk.length q.kc] 28) = wa at bq R2 ⊢
  replace R0 := R0.below bq
  replace R1 := R1.below bq
  replace ho := ho.below bq
  replace hp := hp.below bq
  replace ht := ht.below bq
  replace b0 := below_step b0 bq
  replace hqr := hqr.below bq
  replace hx := hx.below bq
  replace hy := hy.below bq
  have hz2 : q.es.length ≤ 100000 := by
    have : q.es.map En.data = o.es.map En.data := congrArg (fun m : MD => m.2.2.2.2.1) hqd.out
    have := congrArg List.length this
    simp at this
    omega
  have K := KU.out wa hqr ho hz2
  rw [show sameM q.data o.data = true from sameM_iff.2 hqd.out] at K
  clear KU
  have C0 := (R0.2 0 _ rfl).1
  have C1 := (R0.2 1 _ rfl).1
  have C2 := (R0.2 2 _ rfl).1
  have C3 := (R0.2 3 _ rfl).1
  have C4 := (R0.2 4 _ rfl).1
  have C5 := (R0.2 5 _ rfl).1
  have C6 := (R0.2 6 _ rfl).1
  have C7 := (R0.2 7 _ rfl).1
  have C8 := (R0.2 8 _ rfl).1
  have C9 := (R0.2 9 _ rfl).1
  have C10 := (R0.2 10 _ rfl).1
  have C11 := (R0.2 11 _ rfl).1
  have C12 := (R0.2 12 _ rfl).1
  have C13 := (R0.2 13 _ rfl).1
  have C14 := (R0.2 14 _ rfl).1
  have E0 := (R2.2 0 _ rfl).1
  have E1 := (R2.2 1 _ rfl).1
  have E2 := (R2.2 2 _ rfl).1
  have E3 := (R2.2 3 _ rfl).1
  have E4 := (R2.2 4 _ rfl).1
  have E5 := (R2.2 5 _ rfl).1
  have E6 := (R2.2 6 _ rfl).1
  have E7 := (R2.2 7 _ rfl).1
  have E8 := (R2.2 8 _ rfl).1
  have E9 := (R2.2 9 _ rfl).1
  have E10 := (R2.2 10 _ rfl).1
  have E11 := (R2.2 11 _ rfl).1
  have E12 := (R2.2 12 _ rfl).1
  have E13 := (R2.2 13 _ rfl).1
  have E14 := (R2.2 14 _ rfl).1
  replace K := hid K
  have jx : decide ((x.length : Int) < 4) = false := decide_eq_false (by omega)
  go_wp2_with fail
  refine K.out.mono ?_
  rintro e wb ⟨rfl, hb⟩
  clear K
  clear C0 C1 C2 C3 C4 C5 C6 C7 C8 C9 C10 C11 C12 C13 C14
  clear E0 E1 E2 E3 E4 E5 E6 E7 E8 E9 E10 E11 E12 E13 E14
  replace R0 := R0.below hb
  replace R1 := R1.below hb
  replace ho := ho.below hb
  replace hp := hp.below hb
  replace ht := ht.below hb
  replace b0 := below_step b0 hb
  replace hx := hx.below hb
  replace hy := hy.below hb
  clear R2 hqr
  as_aux_lemma =>
  go_upto_region 13 with fail
  have bcur := (Below.refl wb.heap.size wb).drew
  cases hRp : rightM p.data
  case false =>
    have h1 := hq2.out
    rw [bytesM_no hRp] at h1
    obtain ⟨rfl, rfl⟩ := Prod.mk.inj h1
    clear h1 hq2
    replace hRp := hid hRp
    refine wp_region_noPanic ?_
    refine wp_region_held_drew (S := (fun W => Below wb.heap.size wb W)) (by kernel_rfl) ?_ (fun hHeld => ?_)
    · exact (Below.refl _ _).drew
    refine wpAnyH_take (i := 0) (oi := ?oi1) (v := ?v1) ?hi1 (by kernel_rfl) (by kernel_rfl) (by kernel_rfl) ?hQ1 ?hy1 (by assumption) ?hrest1
    case hi1 => (simp only [List.getElem?_toArray, List.getElem?_cons_zero]; try rfl)
    case hQ1 => exact fun _ _ _ h => h
    case hy1 =>
      refine Or.inl ⟨by rfl, ?_⟩
      (intro wq hSw; (try dsimp only at hSw); go_simp; try with_reducible rfl)
    (try simp only [Act.put, List.setIfInBounds_toArray, List.set_cons_zero, List.set_cons_succ])
    refine wpAnyH_take (i := 1) (oi := ?oi2) (v := ?v2) ?hi2 (by kernel_rfl) (by kernel_rfl) (by kernel_rfl) ?hQ2 ?hy2 (by assumption) ?hrest2
    case hi2 => (simp only [List.getElem?_toArray, List.getElem?_cons_succ, List.getElem?_cons_zero]; try rfl)
    case hQ2 => exact fun _ _ _ h => h
    case hy2 =>
      refine Or.inl ⟨by rfl, ?_⟩
      (intro wq hSw; (try dsimp only at hSw); go_simp; try with_reducible rfl)
    (try simp only [Act.put, List.setIfInBounds_toArray, List.set_cons_zero, List.set_cons_succ])
    refine wpAnyH_take (i := 2) (oi := ?oi3) (v := ?v3) ?hi3 (by kernel_rfl) (by kernel_rfl) (by kernel_rfl) ?hQ3 ?hy3 (by assumption) ?hrest3
    case hi3 => (simp only [List.getElem?_toArray, List.getElem?_cons_succ, List.getElem?_cons_zero]; try rfl)
    case hQ3 => exact fun _ _ _ h => h
    case hy3 =>
      refine Or.inl ⟨by rfl, ?_⟩
      (intro wq hSw; (try dsimp only at hSw); go_simp; try with_reducible rfl)
    (try simp only [Act.put, List.setIfInBounds_toArray, List.set_cons_zero, List.set_cons_succ])
    refine wpAnyH_take (i := 3) (oi := ?oi4) (v := ?v4) ?hi4 (by kernel_rfl) (by kernel_rfl) (by kernel_rfl) ?hQ4 ?hy4 (by assumption) ?hrest4
    case hi4 => (simp only [List.getElem?_toArray, List.getElem?_cons_succ, List.getElem?_cons_zero]; try rfl)
    case hQ4 => exact fun _ _ _ h => h
    case hy4 =>
      refine Or.inl ⟨by rfl, ?_⟩
      (intro wq hSw; (try dsimp only at hSw); go_simp; try with_reducible rfl)
    (try simp only [Act.put, List.setIfInBounds_toArray, List.set_cons_zero, List.set_cons_succ])
    refine wpAnyH_take (i := 4) (oi := ?oi5) (v := ?v5) ?hi5 (by kernel_rfl) (by kernel_rfl) (by kernel_rfl) ?hQ5 ?hy5 (by assumption) ?hrest5
    case hi5 => (simp only [List.getElem?_toArray, List.getElem?_cons_succ, List.getElem?_cons_zero]; try rfl)
    case hQ5 => exact fun _ _ _ h => h
    case hy5 =>
      refine Or.inl ⟨by rfl, ?_⟩
      (intro wq hSw; (try dsimp only at hSw); go_simp; try with_reducible rfl)
    (try simp only [Act.put, List.setIfInBounds_toArray, List.set_cons_zero, List.set_cons_succ])
    refine wpAnyH_take (i := 5) (oi := ?oi6) (v := undef) ?hi6 (by kernel_rfl) (by kernel_rfl) (by kernel_rfl) ?hQ6 ?hy6 (by assumption) ?hrest6
    case hi6 => (simp only [List.getElem?_toArray, List.getElem?_cons_succ, List.getElem?_cons_zero]; try rfl)
    case hQ6 => exact fun _ _ _ h => h
    case hy6 => exact Or.inr ⟨by rfl, rfl⟩
    (try simp only [Act.put, List.setIfInBounds_toArray, List.set_cons_zero, List.set_cons_succ])
    refine wpAnyH_take (i := 6) (oi := ?oi7) (v := undef) ?hi7 (by kernel_rfl) (by kernel_rfl) (by kernel_rfl) ?hQ7 ?hy7 (by assumption) ?hrest7
    case hi7 => (simp only [List.getElem?_toArray, List.getElem?_cons_succ, List.getElem?_cons_zero]; try rfl)
    case hQ7 => exact fun _ _ _ h => h
    case hy7 => exact Or.inr ⟨by rfl, rfl⟩
    (try simp only [Act.put, List.setIfInBounds_toArray, List.set_cons_zero, List.set_cons_succ])
    refine wpAnyH_take (i := 7) (oi := ?oi8) (v := undef) ?hi8 (by kernel_rfl) (by kernel_rfl) (by kernel_rfl) ?hQ8 ?hy8 (by assumption) ?hrest8
    case hi8 => (simp only [List.getElem?_toArray, List.getElem?_cons_succ, List.getElem?_cons_zero]; try rfl)
    case hQ8 => exact fun _ _ _ h => h
    case hy8 => exact Or.inr ⟨by rfl, rfl⟩
    (try simp only [Act.put, List.setIfInBounds_toArray, List.set_cons_zero, List.set_cons_succ])
    refine wpAnyH_take (i := 8) (oi := ?oi9) (v := undef) ?hi9 (by kernel_rfl) (by kernel_rfl) (by kernel_rfl) ?hQ9 ?hy9 (by assumption) ?hrest9
    case hi9 => (simp only [List.getElem?_toArray, List.getElem?_cons_succ, List.getElem?_cons_zero]; try rfl)
    case hQ9 => exact fun _ _ _ h => h
    case hy9 => exact Or.inr ⟨by rfl, rfl⟩
    (try simp only [Act.put, List.setIfInBounds_toArray, List.set_cons_zero, List.set_cons_succ])
    refine wpAnyH_take (i := 9) (oi := ?oi10) (v := undef) ?hi10 (by kernel_rfl) (by kernel_rfl) (by kernel_rfl) ?hQ10 ?hy10 (by assumption) ?hrest10
    case hi10 => (simp only [List.getElem?_toArray, List.getElem?_cons_succ, List.getElem?_cons_zero]; try rfl)
    case hQ10 => exact fun _ _ _ h => h
    case hy10 => exact Or.inr ⟨by rfl, rfl⟩
    (try simp only [Act.put, List.setIfInBounds_toArray, List.set_cons_zero, List.set_cons_succ])
    refine wpAnyH_take (i := 10) (oi := ?oi11) (v := undef) ?hi11 (by kernel_rfl) (by kernel_rfl) (by kernel_rfl) ?hQ11 ?hy11 (by assumption) ?hrest11
    case hi11 => (simp only [List.getElem?_toArray, List.getElem?_cons_succ, List.getElem?_cons_zero]; try rfl)
    case hQ11 => exact fun _ _ _ h => h
    case hy11 => exact Or.inr ⟨by rfl, rfl⟩
    (try simp only [Act.put, List.setIfInBounds_toArray, List.set_cons_zero, List.set_cons_succ])
    refine wpAnyH_take (i := 11) (oi := ?oi12) (v := undef) ?hi12 (by kernel_rfl) (by kernel_rfl) (by kernel_rfl) ?hQ12 ?hy12 (by assumption) ?hrest12
    case hi12 => (simp only [List.getElem?_toArray, List.getElem?_cons_succ, List.getElem?_cons_zero]; try rfl)
    case hQ12 => exact fun _ _ _ h => h
    case hy12 => exact Or.inr ⟨by rfl, rfl⟩
    (try simp only [Act.put, List.setIfInBounds_toArray, List.set_cons_zero, List.set_cons_succ])
    refine wpAnyH_take (i := 12) (oi := ?oi13) (v := undef) ?hi13 (by kernel_rfl) (by kernel_rfl) (by kernel_rfl) ?hQ13 ?hy13 (by assumption) ?hrest13
    case hi13 => (simp only [List.getElem?_toArray, List.getElem?_cons_succ, List.getElem?_cons_zero]; try rfl)
    case hQ13 => exact fun _ _ _ h => h
    case hy13 => exact Or.inr ⟨by rfl, rfl⟩
    (try simp only [Act.put, List.setIfInBounds_toArray, List.set_cons_zero, List.set_cons_succ])
    refine wpAnyH_take (i := 13) (oi := ?oi14) (v := undef) ?hi14 (by kernel_rfl) (by kernel_rfl) (by kernel_rfl) ?hQ14 ?hy14 (by assumption) ?hrest14
    case hi14 => (simp only [List.getElem?_toArray, List.getElem?_cons_succ, List.getElem?_cons_zero]; try rfl)
    case hQ14 => exact fun _ _ _ h => h
    case hy14 => exact Or.inr ⟨by rfl, rfl⟩
    (try simp only [Act.put, List.setIfInBounds_toArray, List.set_cons_zero, List.set_cons_succ])
    refine wpAnyH_take (i := 14) (oi := ?oi15) (v := undef) ?hi15 (by kernel_rfl) (by kernel_rfl) (by kernel_rfl) ?hQ15 ?hy15 (by assumption) ?hrest15
    case hi15 => (simp only [List.getElem?_toArray, List.getElem?_cons_succ, List.getElem?_cons_zero]; try rfl)
    case hQ15 => exact fun _ _ _ h => h
    case hy15 => exact Or.inr ⟨by rfl, rfl⟩
    (try simp only [Act.put, List.setIfInBounds_toArray, List.set_cons_zero, List.set_cons_succ])
    refine wpAnyH_take (i := 15) (oi := ?oi16) (v := undef) ?hi16 (by kernel_rfl) (by kernel_rfl) (by kernel_rfl) ?hQ16 ?hy16 (by assumption) ?hrest16
    case hi16 => (simp only [List.getElem?_toArray, List.getElem?_cons_succ, List.getElem?_cons_zero]; try rfl)
    case hQ16 => exact fun _ _ _ h => h
    case hy16 => exact Or.inr ⟨by rfl, rfl⟩
    (try simp only [Act.put, List.setIfInBounds_toArray, List.set_cons_zero, List.set_cons_succ])
    refine wpAnyH_take (i := 16) (oi := ?oi17) (v := ?v17) ?hi17 (by kernel_rfl) (by kernel_rfl) (by kernel_rfl) ?hQ17 ?hy17 (by assumption) ?hrest17
    case hi17 => (simp only [List.getElem?_toArray, List.getElem?_cons_succ, List.getElem?_cons_zero]; try rfl)
    case hQ17 => exact fun _ _ _ h => h
    case hy17 =>
      refine Or.inl ⟨by rfl, ?_⟩
      (intro wq hSw; (try dsimp only at hSw); go_simp; try with_reducible rfl)
    (try simp only [Act.put, List.setIfInBounds_toArray, List.set_cons_zero, List.set_cons_succ])
    refine wpAnyH_take (i := 17) (oi := ?oi18) (v := ?v18) ?hi18 (by kernel_rfl) (by kernel_rfl) (by kernel_rfl) ?hQ18 ?hy18 (by assumption) ?hrest18
    case hi18 => (simp only [List.getElem?_toArray, List.getElem?_cons_succ, List.getElem?_cons_zero]; try rfl)
    case hQ18 => exact fun _ _ _ h => h
    case hy18 =>
      refine Or.inl ⟨by rfl, ?_⟩
      (intro wq hSw; (try dsimp only at hSw); go_simp; try with_reducible rfl)
    (try simp only [Act.put, List.setIfInBounds_toArray, List.set_cons_zero, List.set_cons_succ])
    refine wpAnyH_take (i := 18) (oi := ?oi19) (v := ?v19) ?hi19 (by kernel_rfl) (by kernel_rfl) (by kernel_rfl) ?hQ19 ?hy19 (by assumption) ?hrest19
    case hi19 => (simp only [List.getElem?_toArray, List.getElem?_cons_succ, List.getElem?_cons_zero]; try rfl)
    case hQ19 => exact fun _ _ _ h => h
    case hy19 =>
      refine Or.inl ⟨by rfl, ?_⟩
      (intro wq hSw; (try dsimp only at hSw); go_simp; try with_reducible rfl)
    (try simp only [Act.put, List.setIfInBounds_toArray, List.set_cons_zero, List.set_cons_succ])
    refine wpAnyH_done (by kernel_rfl) ?_ _
    refine NoPanic.normal ?_
    (skip)
    go_wp2_with fail
    go_ret
    exact ⟨rfl, below_step b0 bcur⟩
  have h1 := hq2.out
  rw [bytesM_ok hRp] at h1
  obtain ⟨hye, rfl⟩ := Prod.mk.inj h1
  clear h1 hq2
  have hyl : 4 ≤ y.length := by rw [← hye, sealed_length]; omega
  have hy4 : y.drop 4 = putM p.data := by rw [← hye]; rfl
  have hin := putM_inj hR.out hRp io ip
  obtain ⟨X1, gx1, sx⟩ := cut4 hx hc6 (by omega)
  obtain ⟨Y1, gy1, sy⟩ := cut4 hy hc7 hyl
  have KSM := fun W (hW : Below wb.heap.size wb W) => KT.out W (ho.below hW) (hp.below hW) (by omega)
  clear KT
  rw [hx4.out] at gx1 sx
  rw [hy4] at gy1 sy
  have cx := fun W (hW : Below wb.heap.size wb W) => cvm W (gx1.below hW) (c6 - 4)
  have cy := fun W (hW : Below wb.heap.size wb W) => cvm W (gy1.below hW) (c7 - 4)
  have se := str_beq (putM o.data) (putM p.data)
  rw [hin] at se
  generalize sameM o.data p.data = sm at KSM se
  generalize putM o.data = mo at *
  generalize putM p.data = mp at *
  generalize str mo = so at *
  generalize str mp = sp at *
  replace hRp := hid hRp
  replace hye := hid hye
  replace hy4 := hid hy4
  replace hin := hid hin
  replace KSM := hid KSM
  have k0 := fun W (hW : Below wb.heap.size wb W) => ((R0.below hW).2 0 _ rfl).1
  have k1 := fun W (hW : Below wb.heap.size wb W) => ((R0.below hW).2 1 _ rfl).1
  have k2 := fun W (hW : Below wb.heap.size wb W) => ((R0.below hW).2 2 _ rfl).1
  have k3 := fun W (hW : Below wb.heap.size wb W) => ((R0.below hW).2 3 _ rfl).1
  have k4 := fun W (hW : Below wb.heap.size wb W) => ((R0.below hW).2 4 _ rfl).1
  have k5 := fun W (hW : Below wb.heap.size wb W) => ((R0.below hW).2 5 _ rfl).1
  have k6 := fun W (hW : Below wb.heap.size wb W) => ((R0.below hW).2 6 _ rfl).1
  have k7 := fun W (hW : Below wb.heap.size wb W) => ((R0.below hW).2 7 _ rfl).1
  have k8 := fun W (hW : Below wb.heap.size wb W) => ((R0.below hW).2 8 _ rfl).1
  have k9 := fun W (hW : Below wb.heap.size wb W) => ((R0.below hW).2 9 _ rfl).1
  have k10 := fun W (hW : Below wb.heap.size wb W) => ((R0.below hW).2 10 _ rfl).1
  have k11 := fun W (hW : Below wb.heap.size wb W) => ((R0.below hW).2 11 _ rfl).1
  have k12 := fun W (hW : Below wb.heap.size wb W) => ((R0.below hW).2 12 _ rfl).1
  have k13 := fun W (hW : Below wb.heap.size wb W) => ((R0.below hW).2 13 _ rfl).1
  have k14 := fun W (hW : Below wb.heap.size wb W) => ((R0.below hW).2 14 _ rfl).1
  have q0 := fun W (hW : Below wb.heap.size wb W) => ((R1.below hW).2 0 _ rfl).1
  have q1 := fun W (hW : Below wb.heap.size wb W) => ((R1.below hW).2 1 _ rfl).1
  have q2 := fun W (hW : Below wb.heap.size wb W) => ((R1.below hW).2 2 _ rfl).1
  have q3 := fun W (hW : Below wb.heap.size wb W) => ((R1.below hW).2 3 _ rfl).1
  have q4 := fun W (hW : Below wb.heap.size wb W) => ((R1.below hW).2 4 _ rfl).1
  have q5 := fun W (hW : Below wb.heap.size wb W) => ((R1.below hW).2 5 _ rfl).1
  have q6 := fun W (hW : Below wb.heap.size wb W) => ((R1.below hW).2 6 _ rfl).1
  have q7 := fun W (hW : Below wb.heap.size wb W) => ((R1.below hW).2 7 _ rfl).1
  have q8 := fun W (hW : Below wb.heap.size wb W) => ((R1.below hW).2 8 _ rfl).1
  have q9 := fun W (hW : Below wb.heap.size wb W) => ((R1.below hW).2 9 _ rfl).1
  have q10 := fun W (hW : Below wb.heap.size wb W) => ((R1.below hW).2 10 _ rfl).1
  have q11 := fun W (hW : Below wb.heap.size wb W) => ((R1.below hW).2 11 _ rfl).1
  have q12 := fun W (hW : Below wb.heap.size wb W) => ((R1.below hW).2 12 _ rfl).1
  have q13 := fun W (hW : Below wb.heap.size wb W) => ((R1.below hW).2 13 _ rfl).1
  have q14 := fun W (hW : Below wb.heap.size wb W) => ((R1.below hW).2 14 _ rfl).1
  as_aux_lemma =>
  refine wp_region_noPanic ?_
  refine wp_region_held_drew (S := (fun W => Below wb.heap.size wb W)) (by kernel_rfl) ?_ (fun hHeld => ?_)
  · exact (Below.refl _ _).drew
  refine wpAnyH_take (i := 0) (oi := ?oi20) (v := ?v20) ?hi20 (by kernel_rfl) (by kernel_rfl) (by kernel_rfl) ?hQ20 ?hy20 (by assumption) ?hrest20
  case hi20 => (simp only [List.getElem?_toArray, List.getElem?_cons_zero]; try rfl)
  case hQ20 => exact fun _ _ _ h => h
  case hy20 =>
    refine Or.inl ⟨by rfl, ?_⟩
    (intro wq hSw; (try dsimp only at hSw); go_simp; try with_reducible rfl)
  (try simp only [Act.put, List.setIfInBounds_toArray, List.set_cons_zero, List.set_cons_succ])
  refine wpAnyH_take (i := 1) (oi := ?oi21) (v := ?v21) ?hi21 (by kernel_rfl) (by kernel_rfl) (by kernel_rfl) ?hQ21 ?hy21 (by assumption) ?hrest21
  case hi21 => (simp only [List.getElem?_toArray, List.getElem?_cons_succ, List.getElem?_cons_zero]; try rfl)
  case hQ21 => exact fun _ _ _ h => h
  case hy21 =>
    refine Or.inl ⟨by rfl, ?_⟩
    (intro wq hSw; (try dsimp only at hSw); go_simp; try with_reducible rfl)
  (try simp only [Act.put, List.setIfInBounds_toArray, List.set_cons_zero, List.set_cons_succ])
  refine wpAnyH_take (i := 2) (oi := ?oi22) (v := ?v22) ?hi22 (by kernel_rfl) (by kernel_rfl) (by kernel_rfl) ?hQ22 ?hy22 (by assumption) ?hrest22
  case hi22 => (simp only [List.getElem?_toArray, List.getElem?_cons_succ, List.getElem?_cons_zero]; try rfl)
  case hQ22 => exact fun _ _ _ h => h
  case hy22 =>
    refine Or.inl ⟨by rfl, ?_⟩
    (intro wq hSw; (try dsimp only at hSw); go_simp; try with_reducible rfl)
  (try simp only [Act.put, List.setIfInBounds_toArray, List.set_cons_zero, List.set_cons_succ])
  refine wpAnyH_take (i := 3) (oi := ?oi23) (v := ?v23) ?hi23 (by kernel_rfl) (by kernel_rfl) (by kernel_rfl) ?hQ23 ?hy23 (by assumption) ?hrest23
  case hi23 => (simp only [List.getElem?_toArray, List.getElem?_cons_succ, List.getElem?_cons_zero]; try rfl)
  case hQ23 => exact fun _ _ _ h => h
  case hy23 =>
    refine Or.inl ⟨by rfl, ?_⟩
    (intro wq hSw; (try dsimp only at hSw); go_simp; try with_reducible rfl)
  (try simp only [Act.put, List.setIfInBounds_toArray, List.set_cons_zero, List.set_cons_succ])
  refine wpAnyH_take (i := 4) (oi := ?oi24) (v := ?v24) ?hi24 (by kernel_rfl) (by kernel_rfl) (by kernel_rfl) ?hQ24 ?hy24 (by assumption) ?hrest24
  case hi24 => (simp only [List.getElem?_toArray, List.getElem?_cons_succ, List.getElem?_cons_zero]; try rfl)
  case hQ24 => exact fun _ _ _ h => h
  case hy24 =>
    refine Or.inl ⟨by rfl, ?_⟩
    (intro wq hSw; (try dsimp only at hSw); go_simp; try with_reducible rfl)
  (try simp only [Act.put, List.setIfInBounds_toArray, List.set_cons_zero, List.set_cons_succ])
  refine wpAnyH_take (i := 5) (oi := ?oi25) (v := ?v25) ?hi25 (by kernel_rfl) (by kernel_rfl) (by kernel_rfl) ?hQ25 ?hy25 (by assumption) ?hrest25
  case hi25 => (simp only [List.getElem?_toArray, List.getElem?_cons_succ, List.getElem?_cons_zero]; try rfl)
  case hQ25 => exact fun _ _ _ h => h
  case hy25 =>
    refine Or.inl ⟨by rfl, ?_⟩
    (intro wq hSw; (try dsimp only at hSw); go_simp; try with_reducible rfl)
  (try simp only [Act.put, List.setIfInBounds_toArray, List.set_cons_zero, List.set_cons_succ])
  refine wpAnyH_take (i := 6) (oi := ?oi26) (v := ?v26) ?hi26 (by kernel_rfl) (by kernel_rfl) (by kernel_rfl) ?hQ26 ?hy26 (by assumption) ?hrest26
  case hi26 => (simp only [List.getElem?_toArray, List.getElem?_cons_succ, List.getElem?_cons_zero]; try rfl)
  case hQ26 => exact fun _ _ _ h => h
  case hy26 =>
    refine Or.inl ⟨by rfl, ?_⟩
    (intro wq hSw; (try dsimp only at hSw); go_simp; try with_reducible rfl)
  (try simp only [Act.put, List.setIfInBounds_toArray, List.set_cons_zero, List.set_cons_succ])
  refine wpAnyH_take (i := 7) (oi := ?oi27) (v := ?v27) ?hi27 (by kernel_rfl) (by kernel_rfl) (by kernel_rfl) ?hQ27 ?hy27 (by assumption) ?hrest27
  case hi27 => (simp only [List.getElem?_toArray, List.getElem?_cons_succ, List.getElem?_cons_zero]; try rfl)
  case hQ27 => exact fun _ _ _ h => h
  case hy27 =>
    refine Or.inl ⟨by rfl, ?_⟩
    (intro wq hSw; (try dsimp only at hSw); go_simp; try with_reducible rfl)
  (try simp only [Act.put, List.setIfInBounds_toArray, List.set_cons_zero, List.set_cons_succ])
  refine wpAnyH_take (i := 8) (oi := ?oi28) (v := ?v28) ?hi28 (by kernel_rfl) (by kernel_rfl) (by kernel_rfl) ?hQ28 ?hy28 (by assumption) ?hrest28
  case hi28 => (simp only [List.getElem?_toArray, List.getElem?_cons_succ, List.getElem?_cons_zero]; try rfl)
  case hQ28 => exact fun _ _ _ h => h
  case hy28 =>
    refine Or.inl ⟨by rfl, ?_⟩
    (intro wq hSw; (try dsimp only at hSw); go_simp; try with_reducible rfl)
  (try simp only [Act.put, List.setIfInBounds_toArray, List.set_cons_zero, List.set_cons_succ])
  refine wpAnyH_take (i := 9) (oi := ?oi29) (v := ?v29) ?hi29 (by kernel_rfl) (by kernel_rfl) (by kernel_rfl) ?hQ29 ?hy29 (by assumption) ?hrest29
  case hi29 => (simp only [List.getElem?_toArray, List.getElem?_cons_succ, List.getElem?_cons_zero]; try rfl)
  case hQ29 => exact fun _ _ _ h => h
  case hy29 =>
    refine Or.inl ⟨by rfl, ?_⟩
    (intro wq hSw; (try dsimp only at hSw); go_simp; try with_reducible rfl)
  (try simp only [Act.put, List.setIfInBounds_toArray, List.set_cons_zero, List.set_cons_succ])
  refine wpAnyH_take (i := 10) (oi := ?oi30) (v := ?v30) ?hi30 (by kernel_rfl) (by kernel_rfl) (by kernel_rfl) ?hQ30 ?hy30 (by assumption) ?hrest30
  case hi30 => (simp only [List.getElem?_toArray, List.getElem?_cons_succ, List.getElem?_cons_zero]; try rfl)
  case hQ30 => exact fun _ _ _ h => h
  case hy30 =>
    refine Or.inl ⟨by rfl, ?_⟩
    (intro wq hSw; (try dsimp only at hSw); go_simp; try with_reducible rfl)
  (try simp only [Act.put, List.setIfInBounds_toArray, List.set_cons_zero, List.set_cons_succ])
  refine wpAnyH_take (i := 11) (oi := ?oi31) (v := ?v31) ?hi31 (by kernel_rfl) (by kernel_rfl) (by kernel_rfl) ?hQ31 ?hy31 (by assumption) ?hrest31
  case hi31 => (simp only [List.getElem?_toArray, List.getElem?_cons_succ, List.getElem?_cons_zero]; try rfl)
  case hQ31 => exact fun _ _ _ h => h
  case hy31 =>
    refine Or.inl ⟨by rfl, ?_⟩
    (intro wq hSw; (try dsimp only at hSw); go_simp; try with_reducible rfl)
  (try simp only [Act.put, List.setIfInBounds_toArray, List.set_cons_zero, List.set_cons_succ])
  refine wpAnyH_take (i := 12) (oi := ?oi32) (v := ?v32) ?hi32 (by kernel_rfl) (by kernel_rfl) (by kernel_rfl) ?hQ32 ?hy32 (by assumption) ?hrest32
  case hi32 => (simp only [List.getElem?_toArray, List.getElem?_cons_succ, List.getElem?_cons_zero]; try rfl)
  case hQ32 => exact fun _ _ _ h => h
  case hy32 =>
    refine Or.inl ⟨by rfl, ?_⟩
    (intro wq hSw; (try dsimp only at hSw); go_simp; try with_reducible rfl)
  (try simp only [Act.put, List.setIfInBounds_toArray, List.set_cons_zero, List.set_cons_succ])
  refine wpAnyH_take (i := 13) (oi := ?oi33) (v := ?v33) ?hi33 (by kernel_rfl) (by kernel_rfl) (by kernel_rfl) ?hQ33 ?hy33 (by assumption) ?hrest33
  case hi33 => (simp only [List.getElem?_toArray, List.getElem?_cons_succ, List.getElem?_cons_zero]; try rfl)
  case hQ33 => exact fun _ _ _ h => h
  case hy33 =>
    refine Or.inl ⟨by rfl, ?_⟩
    (intro wq hSw; (try dsimp only at hSw); go_simp; try with_reducible rfl)
  (try simp only [Act.put, List.setIfInBounds_toArray, List.set_cons_zero, List.set_cons_succ])
  refine wpAnyH_ready (rs := [14]) (by kernel_rfl) (by simp) ?_
  refine AllReadyH.cons (o := ?oi34) ?hi34 (fun K hK => ?hstep34) AllReadyH.nil
  case hi34 => (simp only [List.getElem?_toArray, List.getElem?_cons_succ, List.getElem?_cons_zero]; try rfl)
  go_simp
  (refine (KSM.out _ bcur).mono ?_; rintro e wx ⟨rfl, hbx⟩; have bcur := below_step bcur hbx)
  refine hK.out _ _ ?_ (fun hHeld => ?_)
  · exact below_step hHeld hbx
  clear hK K
  (try simp only [Act.put, List.setIfInBounds_toArray, List.set_cons_zero, List.set_cons_succ])
  refine wpAnyH_take (i := 15) (oi := ?oi35) (v := ?v35) ?hi35 (by kernel_rfl) (by kernel_rfl) (by kernel_rfl) ?hQ35 ?hy35 (by assumption) ?hrest35
  case hi35 => (simp only [List.getElem?_toArray, List.getElem?_cons_succ, List.getElem?_cons_zero]; try rfl)
  case hQ35 => exact fun _ _ _ h => h
  case hy35 =>
    refine Or.inl ⟨by rfl, ?_⟩
    (intro wq hSw; (try dsimp only at hSw); go_simp; try with_reducible rfl)
  (try simp only [Act.put, List.setIfInBounds_toArray, List.set_cons_zero, List.set_cons_succ])
  refine wpAnyH_take (i := 16) (oi := ?oi36) (v := ?v36) ?hi36 (by kernel_rfl) (by kernel_rfl) (by kernel_rfl) ?hQ36 ?hy36 (by assumption) ?hrest36
  case hi36 => (simp only [List.getElem?_toArray, List.getElem?_cons_succ, List.getElem?_cons_zero]; try rfl)
  case hQ36 => exact fun _ _ _ h => h
  case hy36 =>
    refine Or.inl ⟨by rfl, ?_⟩
    (intro wq hSw; (try dsimp only at hSw); go_simp; try with_reducible rfl)
  (try simp only [Act.put, List.setIfInBounds_toArray, List.set_cons_zero, List.set_cons_succ])
  refine wpAnyH_take (i := 17) (oi := ?oi37) (v := ?v37) ?hi37 (by kernel_rfl) (by kernel_rfl) (by kernel_rfl) ?hQ37 ?hy37 (by assumption) ?hrest37
  case hi37 => (simp only [List.getElem?_toArray, List.getElem?_cons_succ, List.getElem?_cons_zero]; try rfl)
  case hQ37 => exact fun _ _ _ h => h
  case hy37 =>
    refine Or.inl ⟨by rfl, ?_⟩
    (intro wq hSw; (try dsimp only at hSw); go_simp; try with_reducible rfl)
  (try simp only [Act.put, List.setIfInBounds_toArray, List.set_cons_zero, List.set_cons_succ])
  refine wpAnyH_take (i := 18) (oi := ?oi38) (v := ?v38) ?hi38 (by kernel_rfl) (by kernel_rfl) (by kernel_rfl) ?hQ38 ?hy38 (by assumption) ?hrest38
  case hi38 => (simp only [List.getElem?_toArray, List.getElem?_cons_succ, List.getElem?_cons_zero]; try rfl)
  case hQ38 => exact fun _ _ _ h => h
  case hy38 =>
    refine Or.inl ⟨by rfl, ?_⟩
    (intro wq hSw; (try dsimp only at hSw); go_simp; try with_reducible rfl)
  (try simp only [Act.put, List.setIfInBounds_toArray, List.set_cons_zero, List.set_cons_succ])
  refine wpAnyH_done (by kernel_rfl) ?_ _
  refine NoPanic.normal ?_
  (skip)
  go_wp2_with fail
  go_ret
  exact ⟨by simp, below_step b0 bcur⟩
end Go.Proofs.YtgkdnhbhmebmeaaDoor
