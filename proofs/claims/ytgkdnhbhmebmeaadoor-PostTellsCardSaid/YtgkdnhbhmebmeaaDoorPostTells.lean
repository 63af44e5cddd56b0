import Derived.Test.YtgkdnhbhmebmeaaDoorPostSizes
import Derived.Test.YtgkdnhbhmebmeaaDoorPostO
import Derived.Test.YtgkdnhbhmebmeaaDoorPlain1
/-! PostTells: any message's bytes, the message of any bytes, or the error, and whether any may be sent, are the document's. -/
namespace Go.Proofs.YtgkdnhbhmebmeaaDoor
open Go.RowKit Go.Cov
theorem readS_small {l : List UInt8} {q : Ma} (h : q.data = (readS l).1) : q.es.length ≤ 100000 := by
  have hl : q.es.length = (readS l).1.2.2.2.2.1.length := by rw [← h]; unfold Ma.data; simp
  rcases readS_cases l with ⟨hr, _, _⟩ | ⟨hz, _⟩
  · rw [← h] at hr
    have := (rightM_len hr).2.2.1
    omega
  · rw [hl, hz]; decide
set_option maxRecDepth 100000 in
set_option maxHeartbeats 6400000 in
theorem tells_law (o : Ma) {w : World} (ho : MaRd w o) {A : Option Addr} {c : Nat} {l : List UInt8} (h : Rd w A (l.map byt)) (hc : l.length ≤ c) (hl : l.length ≤ 140737488351232) (ht : Tab w) :
    Calls Tryd.prog 3 #[o.val, .slice A l.length c] w fun e w' => e = .returned (.bool true) ∧ Below w.heap.size w w' := by
  have hov : o.val = .agg #[.int .i64 o.n.1, .int .i64 o.n.2.1, .int .i64 o.n.2.2.1, .int .i64 o.n.2.2.2.1, .int .i64 o.n.2.2.2.2.1, .int .i64 o.n.2.2.2.2.2.1, .int .i64 o.n.2.2.2.2.2.2.1, .int .i64 o.n.2.2.2.2.2.2.2.1, .int .i64 o.n.2.2.2.2.2.2.2.2.1, .int .i64 o.n.2.2.2.2.2.2.2.2.2, .slice o.bA o.b.length o.bc, .bool o.has, .int .i64 o.st, .slice o.eA o.es.length o.ec, .slice o.kA o.chk.length o.kc] := rfl
  have KG := great_any o
  have KP := fun W (hW : MaRd W o) (tW : Tab W) => putmsg_any o hW tW
  have KR := fun W (hW : MaRd W o) => pright_any hW
  have KT := fun W (hW : MaRd W o) => rpright_any hW
  have KQ := fun W (hW : MaRd W o) => rputmsg_any o hW
  rw [hov] at KG KP KR KT KQ
  rw [hov]
  clear hov
  have b0 := below_alloc w (.cells #[.int .i64 o.n.1, .int .i64 o.n.2.1, .int .i64 o.n.2.2.1, .int .i64 o.n.2.2.2.1, .int .i64 o.n.2.2.2.2.1, .int .i64 o.n.2.2.2.2.2.1, .int .i64 o.n.2.2.2.2.2.2.1, .int .i64 o.n.2.2.2.2.2.2.2.1, .int .i64 o.n.2.2.2.2.2.2.2.2.1, .int .i64 o.n.2.2.2.2.2.2.2.2.2, .slice o.bA o.b.length o.bc, .bool o.has, .int .i64 o.st, .slice o.eA o.es.length o.ec, .slice o.kA o.chk.length o.kc] 28)
  have R0 := Row.new w [.int .i64 o.n.1, .int .i64 o.n.2.1, .int .i64 o.n.2.2.1, .int .i64 o.n.2.2.2.1, .int .i64 o.n.2.2.2.2.1, .int .i64 o.n.2.2.2.2.2.1, .int .i64 o.n.2.2.2.2.2.2.1, .int .i64 o.n.2.2.2.2.2.2.2.1, .int .i64 o.n.2.2.2.2.2.2.2.2.1, .int .i64 o.n.2.2.2.2.2.2.2.2.2, .slice o.bA o.b.length o.bc, .bool o.has, .int .i64 o.st, .slice o.eA o.es.length o.ec, .slice o.kA o.chk.length o.kc] 28
  obtain ⟨gr, hgr⟩ : ∃ g, greatB o = g := ⟨_, rfl⟩
  rw [hgr] at KG
  replace hgr := hid hgr
  replace KG := hid KG
  replace KP := hid KP
  replace KR := hid KR
  replace KT := hid KT
  replace KQ := hid KQ
  go_enter Tryd.func3, Tryd.ntmps3
  go_upto_region 1 with fail
  change Row (w.alloc (.cells #[.int .i64 o.n.1, .int .i64 o.n.2.1, .int .i64 o.n.2.2.1, .int .i64 o.n.2.2.2.1, .int .i64 o.n.2.2.2.2.1, .int .i64 o.n.2.2.2.2.2.1, .int .i64 o.n.2.2.2.2.2.2.1, .int .i64 o.n.2.2.2.2.2.2.2.1, .int .i64 o.n.2.2.2.2.2.2.2.2.1, .int .i64 o.n.2.2.2.2.2.2.2.2.2, .slice o.bA o.b.length o.bc, .bool o.has, .int .i64 o.st, .slice o.eA o.es.length o.ec, .slice o.kA o.chk.length o.kc] 28)) _ _ at R0
  generalize w.alloc (.cells #[.int .i64 o.n.1, .int .i64 o.n.2.1, .int .i64 o.n.2.2.1, .int .i64 o.n.2.2.2.1, .int .i64 o.n.2.2.2.2.1, .int .i64 o.n.2.2.2.2.2.1, .int .i64 o.n.2.2.2.2.2.2.1, .int .i64 o.n.2.2.2.2.2.2.2.1, .int .i64 o.n.2.2.2.2.2.2.2.2.1, .int .i64 o.n.2.2.2.2.2.2.2.2.2, .slice o.bA o.b.length o.bc, .bool o.has, .int .i64 o.st, .slice o.eA o.es.length o.ec, .slice o.kA o.chk.length o.kc] 28) = w1 at b0 R0 ⊢
  replace ho := ho.below b0
  replace ht := ht.below b0
  replace h := h.below b0
  go_wp2_with fail
  refine (head_any w1 ht).mono ?_
  rintro e w2 ⟨rfl, hb⟩
  replace b0 := below_step b0 hb
  replace R0 := R0.below hb
  replace ho := ho.below hb
  replace ht := ht.below hb
  replace h := h.below hb
  have C0 := (R0.2 0 _ rfl).1
  have C1 := (R0.2 1 _ rfl).1
  have C2 := (R0.2 2 _ rfl).1
  have C3 := (R0.2 3 _ rfl).1
  have C4 := (R0.2 4 _ rfl).1
  have C5 := (R0.2 5 _ rfl).1
  have C6 := (R0.2 6 _ rfl).1
  have C7 := (R0.2 7 _ rfl).1
  have C8 := (R0.2 8 _ rfl).1
  have C9 := (R0.2 9 _ rfl).1
  have C10 := (R0.2 10 _ rfl).1
  have C11 := (R0.2 11 _ rfl).1
  have C12 := (R0.2 12 _ rfl).1
  have C13 := (R0.2 13 _ rfl).1
  have C14 := (R0.2 14 _ rfl).1
  go_wp2_with fail
  refine (KG.out w2).mono ?_
  rintro e w3 ⟨rfl, hb⟩
  clear C0 C1 C2 C3 C4 C5 C6 C7 C8 C9 C10 C11 C12 C13 C14
  replace b0 := below_step b0 hb
  replace R0 := R0.below hb
  replace ho := ho.below hb
  replace ht := ht.below hb
  replace h := h.below hb
  clear KG
  cases gr
  case true =>
    go_wp2_with fail
    go_ret
    exact ⟨rfl, b0⟩
  obtain ⟨g1, g2, g3⟩ := greatB_no hgr.out
  obtain ⟨⟨x, e6⟩, hq⟩ : ∃ q, bytesM o.data = q := ⟨_, rfl⟩
  have C0 := (R0.2 0 _ rfl).1
  have C1 := (R0.2 1 _ rfl).1
  have C2 := (R0.2 2 _ rfl).1
  have C3 := (R0.2 3 _ rfl).1
  have C4 := (R0.2 4 _ rfl).1
  have C5 := (R0.2 5 _ rfl).1
  have C6 := (R0.2 6 _ rfl).1
  have C7 := (R0.2 7 _ rfl).1
  have C8 := (R0.2 8 _ rfl).1
  have C9 := (R0.2 9 _ rfl).1
  have C10 := (R0.2 10 _ rfl).1
  have C11 := (R0.2 11 _ rfl).1
  have C12 := (R0.2 12 _ rfl).1
  have C13 := (R0.2 13 _ rfl).1
  have C14 := (R0.2 14 _ rfl).1
  have K := KP.out w3 ho ht
  rw [hq] at K
  dsimp only at K
  go_wp2_with fail
  refine K.mono ?_
  rintro e w4 ⟨v4, rfl, own4, hb⟩
  clear K KP
  clear C0 C1 C2 C3 C4 C5 C6 C7 C8 C9 C10 C11 C12 C13 C14
  replace b0 := below_step b0 hb
  replace R0 := R0.below hb
  replace ho := ho.below hb
  replace ht := ht.below hb
  replace h := h.below hb
  obtain ⟨A4, c4, rfl, hc4, hm4, _⟩ := own_shape own4
  have hx := own_rd own4
  clear own4
  have C0 := (R0.2 0 _ rfl).1
  have C1 := (R0.2 1 _ rfl).1
  have C2 := (R0.2 2 _ rfl).1
  have C3 := (R0.2 3 _ rfl).1
  have C4 := (R0.2 4 _ rfl).1
  have C5 := (R0.2 5 _ rfl).1
  have C6 := (R0.2 6 _ rfl).1
  have C7 := (R0.2 7 _ rfl).1
  have C8 := (R0.2 8 _ rfl).1
  have C9 := (R0.2 9 _ rfl).1
  have C10 := (R0.2 10 _ rfl).1
  have C11 := (R0.2 11 _ rfl).1
  have C12 := (R0.2 12 _ rfl).1
  have C13 := (R0.2 13 _ rfl).1
  have C14 := (R0.2 14 _ rfl).1
  have K := KQ.out w4 ho
  rw [hq] at K
  dsimp only at K
  go_wp2_with fail
  refine K.mono ?_
  rintro e w5 ⟨v5, rfl, own5, hb⟩
  clear K KQ
  clear C0 C1 C2 C3 C4 C5 C6 C7 C8 C9 C10 C11 C12 C13 C14
  replace b0 := below_step b0 hb
  replace R0 := R0.below hb
  replace ho := ho.below hb
  replace ht := ht.below hb
  replace h := h.below hb
  replace hx := hx.below hb
  obtain ⟨A5, c5, rfl, hc5, hm5, _⟩ := own_shape own5
  have hy := own_rd own5
  clear own5 hq
  have hl2 : l.length ≤ 140737488351236 := by omega
  have K := hid (getmsg_any h hc hl2 ht)
  go_wp2_with fail
  refine K.out.mono ?_
  rintro e w6 ⟨q, rfl, qd, qr, hb⟩
  clear K
  replace b0 := below_step b0 hb
  replace R0 := R0.below hb
  replace ho := ho.below hb
  replace ht := ht.below hb
  replace h := h.below hb
  replace hx := hx.below hb
  replace hy := hy.below hb
  have hv : q.val = .agg #[.int .i64 q.n.1, .int .i64 q.n.2.1, .int .i64 q.n.2.2.1, .int .i64 q.n.2.2.2.1, .int .i64 q.n.2.2.2.2.1, .int .i64 q.n.2.2.2.2.2.1, .int .i64 q.n.2.2.2.2.2.2.1, .int .i64 q.n.2.2.2.2.2.2.2.1, .int .i64 q.n.2.2.2.2.2.2.2.2.1, .int .i64 q.n.2.2.2.2.2.2.2.2.2, .slice q.bA q.b.length q.bc, .bool q.has, .int .i64 q.st, .slice q.eA q.es.length q.ec, .slice q.kA q.chk.length q.kc] := rfl
  rw [hv]
  clear hv
  replace qd := hid qd
  have bq := below_alloc w6 (.cells #[.int .i64 q.n.1, .int .i64 q.n.2.1, .int .i64 q.n.2.2.1, .int .i64 q.n.2.2.2.1, .int .i64 q.n.2.2.2.2.1, .int .i64 q.n.2.2.2.2.2.1, .int .i64 q.n.2.2.2.2.2.2.1, .int .i64 q.n.2.2.2.2.2.2.2.1, .int .i64 q.n.2.2.2.2.2.2.2.2.1, .int .i64 q.n.2.2.2.2.2.2.2.2.2, .slice q.bA q.b.length q.bc, .bool q.has, .int .i64 q.st, .slice q.eA q.es.length q.ec, .slice q.kA q.chk.length q.kc] 28)
  have R2 := Row.new w6 [.int .i64 q.n.1, .int .i64 q.n.2.1, .int .i64 q.n.2.2.1, .int .i64 q.n.2.2.2.1, .int .i64 q.n.2.2.2.2.1, .int .i64 q.n.2.2.2.2.2.1, .int .i64 q.n.2.2.2.2.2.2.1, .int .i64 q.n.2.2.2.2.2.2.2.1, .int .i64 q.n.2.2.2.2.2.2.2.2.1, .int .i64 q.n.2.2.2.2.2.2.2.2.2, .slice q.bA q.b.length q.bc, .bool q.has, .int .i64 q.st, .slice q.eA q.es.length q.ec, .slice q.kA q.chk.length q.kc] 28
  replace bq := hid bq
  replace R2 := hid R2
  go_upto_region 7 with fail
  replace bq := bq.out
  replace R2 := R2.out
  change Row (w6.alloc (.cells #[.int .i64 q.n.1, .int .i64 q.n.2.1, .int .i64 q.n.2.2.1, .int .i64 q.n.2.2.2.1, .int .i64 q.n.2.2.2.2.1, .int .i64 q.n.2.2.2.2.2.1, .int .i64 q.n.2.2.2.2.2.2.1, .int .i64 q.n.2.2.2.2.2.2.2.1, .int .i64 q.n.2.2.2.2.2.2.2.2.1, .int .i64 q.n.2.2.2.2.2.2.2.2.2, .slice q.bA q.b.length q.bc, .bool q.has, .int .i64 q.st, .slice q.eA q.es.length q.ec, .slice q.kA q.chk.length q.kc] 28)) _ _ at R2
  generalize w6.alloc (.cells #[.int .i64 q.n.1, .int .i64 q.n.2.1, .int .i64 q.n.2.2.1, .int .i64 q.n.2.2.2.1, .int .i64 q.n.2.2.2.2.1, .int .i64 q.n.2.2.2.2.2.1, .int .i64 q.n.2.2.2.2.2.2.1, .int .i64 q.n.2.2.2.2.2.2.2.1, .int .i64 q.n.2.2.2.2.2.2.2.2.1, .int .i64 q.n.2.2.2.2.2.2.2.2.2, .slice q.bA q.b.length q.bc, .bool q.has, .int .i64 q.st, .slice q.eA q.es.length q.ec, .slice q.kA q.chk.length q.kc] 28) = w7 at bq R2 ⊢
  replace b0 := below_step b0 bq
  replace R0 := R0.below bq
  replace ho := ho.below bq
  replace ht := ht.below bq
  replace h := h.below bq
  replace hx := hx.below bq
  replace hy := hy.below bq
  replace qr := qr.below bq
  have K := hid (rgetmsg_any h hc hl)
  go_wp2_with fail
  refine K.out.mono ?_
  rintro e w8 ⟨r, rfl, rd, rr, hb⟩
  have hb9 := hb
  clear K
  replace b0 := below_step b0 hb
  replace R0 := R0.below hb
  replace ho := ho.below hb
  replace ht := ht.below hb
  replace h := h.below hb
  replace hx := hx.below hb
  replace hy := hy.below hb
  replace qr := qr.below hb
  have hv : r.val = .agg #[.int .i64 r.n.1, .int .i64 r.n.2.1, .int .i64 r.n.2.2.1, .int .i64 r.n.2.2.2.1, .int .i64 r.n.2.2.2.2.1, .int .i64 r.n.2.2.2.2.2.1, .int .i64 r.n.2.2.2.2.2.2.1, .int .i64 r.n.2.2.2.2.2.2.2.1, .int .i64 r.n.2.2.2.2.2.2.2.2.1, .int .i64 r.n.2.2.2.2.2.2.2.2.2, .slice r.bA r.b.length r.bc, .bool r.has, .int .i64 r.st, .slice r.eA r.es.length r.ec, .slice r.kA r.chk.length r.kc] := rfl
  rw [hv]
  clear hv
  replace rd := hid rd
  have bq := below_alloc w8 (.cells #[.int .i64 r.n.1, .int .i64 r.n.2.1, .int .i64 r.n.2.2.1, .int .i64 r.n.2.2.2.1, .int .i64 r.n.2.2.2.2.1, .int .i64 r.n.2.2.2.2.2.1, .int .i64 r.n.2.2.2.2.2.2.1, .int .i64 r.n.2.2.2.2.2.2.2.1, .int .i64 r.n.2.2.2.2.2.2.2.2.1, .int .i64 r.n.2.2.2.2.2.2.2.2.2, .slice r.bA r.b.length r.bc, .bool r.has, .int .i64 r.st, .slice r.eA r.es.length r.ec, .slice r.kA r.chk.length r.kc] 28)
  have R3 := Row.new w8 [.int .i64 r.n.1, .int .i64 r.n.2.1, .int .i64 r.n.2.2.1, .int .i64 r.n.2.2.2.1, .int .i64 r.n.2.2.2.2.1, .int .i64 r.n.2.2.2.2.2.1, .int .i64 r.n.2.2.2.2.2.2.1, .int .i64 r.n.2.2.2.2.2.2.2.1, .int .i64 r.n.2.2.2.2.2.2.2.2.1, .int .i64 r.n.2.2.2.2.2.2.2.2.2, .slice r.bA r.b.length r.bc, .bool r.has, .int .i64 r.st, .slice r.eA r.es.length r.ec, .slice r.kA r.chk.length r.kc] 28
  replace bq := hid bq
  replace R3 := hid R3
  go_upto_region 8 with fail
  replace bq := bq.out
  replace R3 := R3.out
  replace R2 := (R2.below hb9).below bq
  change Row (w8.alloc (.cells #[.int .i64 r.n.1, .int .i64 r.n.2.1, .int .i64 r.n.2.2.1, .int .i64 r.n.2.2.2.1, .int .i64 r.n.2.2.2.2.1, .int .i64 r.n.2.2.2.2.2.1, .int .i64 r.n.2.2.2.2.2.2.1, .int .i64 r.n.2.2.2.2.2.2.2.1, .int .i64 r.n.2.2.2.2.2.2.2.2.1, .int .i64 r.n.2.2.2.2.2.2.2.2.2, .slice r.bA r.b.length r.bc, .bool r.has, .int .i64 r.st, .slice r.eA r.es.length r.ec, .slice r.kA r.chk.length r.kc] 28)) _ _ at R3
  generalize w8.alloc (.cells #[.int .i64 r.n.1, .int .i64 r.n.2.1, .int .i64 r.n.2.2.1, .int .i64 r.n.2.2.2.1, .int .i64 r.n.2.2.2.2.1, .int .i64 r.n.2.2.2.2.2.1, .int .i64 r.n.2.2.2.2.2.2.1, .int .i64 r.n.2.2.2.2.2.2.2.1, .int .i64 r.n.2.2.2.2.2.2.2.2.1, .int .i64 r.n.2.2.2.2.2.2.2.2.2, .slice r.bA r.b.length r.bc, .bool r.has, .int .i64 r.st, .slice r.eA r.es.length r.ec, .slice r.kA r.chk.length r.kc] 28) = w9 at bq R2 R3 ⊢
  replace b0 := below_step b0 bq
  replace R0 := R0.below bq
  replace ho := ho.below bq
  replace ht := ht.below bq
  replace h := h.below bq
  replace hx := hx.below bq
  replace hy := hy.below bq
  replace qr := qr.below bq
  replace rr := rr.below bq
  have K := fun W (hW : Below w9.heap.size w9 W) => msame_any q r (qr.below hW) (rr.below hW) (readS_small qd.out)
  rw [show sameM q.data r.data = true from sameM_iff.2 (qd.out.trans rd.out.symm)] at K
  have hqv : q.val = .agg #[.int .i64 q.n.1, .int .i64 q.n.2.1, .int .i64 q.n.2.2.1, .int .i64 q.n.2.2.2.1, .int .i64 q.n.2.2.2.2.1, .int .i64 q.n.2.2.2.2.2.1, .int .i64 q.n.2.2.2.2.2.2.1, .int .i64 q.n.2.2.2.2.2.2.2.1, .int .i64 q.n.2.2.2.2.2.2.2.2.1, .int .i64 q.n.2.2.2.2.2.2.2.2.2, .slice q.bA q.b.length q.bc, .bool q.has, .int .i64 q.st, .slice q.eA q.es.length q.ec, .slice q.kA q.chk.length q.kc] := rfl
  have hrv : r.val = .agg #[.int .i64 r.n.1, .int .i64 r.n.2.1, .int .i64 r.n.2.2.1, .int .i64 r.n.2.2.2.1, .int .i64 r.n.2.2.2.2.1, .int .i64 r.n.2.2.2.2.2.1, .int .i64 r.n.2.2.2.2.2.2.1, .int .i64 r.n.2.2.2.2.2.2.2.1, .int .i64 r.n.2.2.2.2.2.2.2.2.1, .int .i64 r.n.2.2.2.2.2.2.2.2.2, .slice r.bA r.b.length r.bc, .bool r.has, .int .i64 r.st, .slice r.eA r.es.length r.ec, .slice r.kA r.chk.length r.kc] := rfl
  rw [hqv, hrv] at K
  clear hqv hrv
  have KSM := hid K
  have KR1 := hid (fun W (hW : Below w9.heap.size w9 W) => KR.out W (ho.below hW))
  have KT1 := hid (fun W (hW : Below w9.heap.size w9 W) => KT.out W (ho.below hW))
  clear K KR KT
  have cx := fun W (hW : Below w9.heap.size w9 W) => cvm W (hx.below hW) c4
  have cy := fun W (hW : Below w9.heap.size w9 W) => cvm W (hy.below hW) c5
  generalize str x = sx at cx cy
  generalize (readS l).2 = eg
  have bcur := (Below.refl w9.heap.size w9).drew
  have k0 := fun W (hW : Below w9.heap.size w9 W) => ((R0.below hW).2 0 _ rfl).1
  have k1 := fun W (hW : Below w9.heap.size w9 W) => ((R0.below hW).2 1 _ rfl).1
  have k2 := fun W (hW : Below w9.heap.size w9 W) => ((R0.below hW).2 2 _ rfl).1
  have k3 := fun W (hW : Below w9.heap.size w9 W) => ((R0.below hW).2 3 _ rfl).1
  have k4 := fun W (hW : Below w9.heap.size w9 W) => ((R0.below hW).2 4 _ rfl).1
  have k5 := fun W (hW : Below w9.heap.size w9 W) => ((R0.below hW).2 5 _ rfl).1
  have k6 := fun W (hW : Below w9.heap.size w9 W) => ((R0.below hW).2 6 _ rfl).1
  have k7 := fun W (hW : Below w9.heap.size w9 W) => ((R0.below hW).2 7 _ rfl).1
  have k8 := fun W (hW : Below w9.heap.size w9 W) => ((R0.below hW).2 8 _ rfl).1
  have k9 := fun W (hW : Below w9.heap.size w9 W) => ((R0.below hW).2 9 _ rfl).1
  have k10 := fun W (hW : Below w9.heap.size w9 W) => ((R0.below hW).2 10 _ rfl).1
  have k11 := fun W (hW : Below w9.heap.size w9 W) => ((R0.below hW).2 11 _ rfl).1
  have k12 := fun W (hW : Below w9.heap.size w9 W) => ((R0.below hW).2 12 _ rfl).1
  have k13 := fun W (hW : Below w9.heap.size w9 W) => ((R0.below hW).2 13 _ rfl).1
  have k14 := fun W (hW : Below w9.heap.size w9 W) => ((R0.below hW).2 14 _ rfl).1
  have m0 := fun W (hW : Below w9.heap.size w9 W) => ((R2.below hW).2 0 _ rfl).1
  have m1 := fun W (hW : Below w9.heap.size w9 W) => ((R2.below hW).2 1 _ rfl).1
  have m2 := fun W (hW : Below w9.heap.size w9 W) => ((R2.below hW).2 2 _ rfl).1
  have m3 := fun W (hW : Below w9.heap.size w9 W) => ((R2.below hW).2 3 _ rfl).1
  have m4 := fun W (hW : Below w9.heap.size w9 W) => ((R2.below hW).2 4 _ rfl).1
  have m5 := fun W (hW : Below w9.heap.size w9 W) => ((R2.below hW).2 5 _ rfl).1
  have m6 := fun W (hW : Below w9.heap.size w9 W) => ((R2.below hW).2 6 _ rfl).1
  have m7 := fun W (hW : Below w9.heap.size w9 W) => ((R2.below hW).2 7 _ rfl).1
  have m8 := fun W (hW : Below w9.heap.size w9 W) => ((R2.below hW).2 8 _ rfl).1
  have m9 := fun W (hW : Below w9.heap.size w9 W) => ((R2.below hW).2 9 _ rfl).1
  have m10 := fun W (hW : Below w9.heap.size w9 W) => ((R2.below hW).2 10 _ rfl).1
  have m11 := fun W (hW : Below w9.heap.size w9 W) => ((R2.below hW).2 11 _ rfl).1
  have m12 := fun W (hW : Below w9.heap.size w9 W) => ((R2.below hW).2 12 _ rfl).1
  have m13 := fun W (hW : Below w9.heap.size w9 W) => ((R2.below hW).2 13 _ rfl).1
  have m14 := fun W (hW : Below w9.heap.size w9 W) => ((R2.below hW).2 14 _ rfl).1
  have n0 := fun W (hW : Below w9.heap.size w9 W) => ((R3.below hW).2 0 _ rfl).1
  have n1 := fun W (hW : Below w9.heap.size w9 W) => ((R3.below hW).2 1 _ rfl).1
  have n2 := fun W (hW : Below w9.heap.size w9 W) => ((R3.below hW).2 2 _ rfl).1
  have n3 := fun W (hW : Below w9.heap.size w9 W) => ((R3.below hW).2 3 _ rfl).1
  have n4 := fun W (hW : Below w9.heap.size w9 W) => ((R3.below hW).2 4 _ rfl).1
  have n5 := fun W (hW : Below w9.heap.size w9 W) => ((R3.below hW).2 5 _ rfl).1
  have n6 := fun W (hW : Below w9.heap.size w9 W) => ((R3.below hW).2 6 _ rfl).1
  have n7 := fun W (hW : Below w9.heap.size w9 W) => ((R3.below hW).2 7 _ rfl).1
  have n8 := fun W (hW : Below w9.heap.size w9 W) => ((R3.below hW).2 8 _ rfl).1
  have n9 := fun W (hW : Below w9.heap.size w9 W) => ((R3.below hW).2 9 _ rfl).1
  have n10 := fun W (hW : Below w9.heap.size w9 W) => ((R3.below hW).2 10 _ rfl).1
  have n11 := fun W (hW : Below w9.heap.size w9 W) => ((R3.below hW).2 11 _ rfl).1
  have n12 := fun W (hW : Below w9.heap.size w9 W) => ((R3.below hW).2 12 _ rfl).1
  have n13 := fun W (hW : Below w9.heap.size w9 W) => ((R3.below hW).2 13 _ rfl).1
  have n14 := fun W (hW : Below w9.heap.size w9 W) => ((R3.below hW).2 14 _ rfl).1
  replace R0 := hid R0
  replace R2 := hid R2
  replace R3 := hid R3
  as_aux_lemma =>
  refine wp_region_noPanic ?_
  refine wp_region_held_drew (S := (fun W => Below w9.heap.size w9 W)) (by kernel_rfl) ?_ (fun hHeld => ?_)
  · exact (Below.refl _ _).drew
  refine wpAnyH_take (i := 0) (oi := ?oi1) (v := ?v1) ?hi1 (by kernel_rfl) (by kernel_rfl) (by kernel_rfl) ?hQ1 ?hy1 (by assumption) ?hrest1
  case hi1 => (simp only [List.getElem?_toArray, List.getElem?_cons_zero]; try rfl)
  case hQ1 => exact fun _ _ _ h => h
  case hy1 =>
    refine Or.inl ⟨by rfl, ?_⟩
    (intro wq hSw; (try dsimp only at hSw); go_simp; try with_reducible rfl)
  (try simp only [Act.put, List.setIfInBounds_toArray, List.set_cons_zero, List.set_cons_succ])
  refine wpAnyH_take (i := 1) (oi := ?oi2) (v := ?v2) ?hi2 (by kernel_rfl) (by kernel_rfl) (by kernel_rfl) ?hQ2 ?hy2 (by assumption) ?hrest2
  case hi2 => (simp only [List.getElem?_toArray, List.getElem?_cons_succ, List.getElem?_cons_zero]; try rfl)
  case hQ2 => exact fun _ _ _ h => h
  case hy2 =>
    refine Or.inl ⟨by rfl, ?_⟩
    (intro wq hSw; (try dsimp only at hSw); go_simp; try with_reducible rfl)
  (try simp only [Act.put, List.setIfInBounds_toArray, List.set_cons_zero, List.set_cons_succ])
  refine wpAnyH_take (i := 2) (oi := ?oi3) (v := ?v3) ?hi3 (by kernel_rfl) (by kernel_rfl) (by kernel_rfl) ?hQ3 ?hy3 (by assumption) ?hrest3
  case hi3 => (simp only [List.getElem?_toArray, List.getElem?_cons_succ, List.getElem?_cons_zero]; try rfl)
  case hQ3 => exact fun _ _ _ h => h
  case hy3 =>
    refine Or.inl ⟨by rfl, ?_⟩
    (intro wq hSw; (try dsimp only at hSw); go_simp; try with_reducible rfl)
  (try simp only [Act.put, List.setIfInBounds_toArray, List.set_cons_zero, List.set_cons_succ])
  refine wpAnyH_take (i := 3) (oi := ?oi4) (v := ?v4) ?hi4 (by kernel_rfl) (by kernel_rfl) (by kernel_rfl) ?hQ4 ?hy4 (by assumption) ?hrest4
  case hi4 => (simp only [List.getElem?_toArray, List.getElem?_cons_succ, List.getElem?_cons_zero]; try rfl)
  case hQ4 => exact fun _ _ _ h => h
  case hy4 =>
    refine Or.inl ⟨by rfl, ?_⟩
    (intro wq hSw; (try dsimp only at hSw); go_simp; try with_reducible rfl)
  (try simp only [Act.put, List.setIfInBounds_toArray, List.set_cons_zero, List.set_cons_succ])
  refine wpAnyH_take (i := 4) (oi := ?oi5) (v := ?v5) ?hi5 (by kernel_rfl) (by kernel_rfl) (by kernel_rfl) ?hQ5 ?hy5 (by assumption) ?hrest5
  case hi5 => (simp only [List.getElem?_toArray, List.getElem?_cons_succ, List.getElem?_cons_zero]; try rfl)
  case hQ5 => exact fun _ _ _ h => h
  case hy5 =>
    refine Or.inl ⟨by rfl, ?_⟩
    (intro wq hSw; (try dsimp only at hSw); go_simp; try with_reducible rfl)
  (try simp only [Act.put, List.setIfInBounds_toArray, List.set_cons_zero, List.set_cons_succ])
  refine wpAnyH_take (i := 5) (oi := ?oi6) (v := ?v6) ?hi6 (by kernel_rfl) (by kernel_rfl) (by kernel_rfl) ?hQ6 ?hy6 (by assumption) ?hrest6
  case hi6 => (simp only [List.getElem?_toArray, List.getElem?_cons_succ, List.getElem?_cons_zero]; try rfl)
  case hQ6 => exact fun _ _ _ h => h
  case hy6 =>
    refine Or.inl ⟨by rfl, ?_⟩
    (intro wq hSw; (try dsimp only at hSw); go_simp; try with_reducible rfl)
  (try simp only [Act.put, List.setIfInBounds_toArray, List.set_cons_zero, List.set_cons_succ])
  refine wpAnyH_take (i := 6) (oi := ?oi7) (v := ?v7) ?hi7 (by kernel_rfl) (by kernel_rfl) (by kernel_rfl) ?hQ7 ?hy7 (by assumption) ?hrest7
  case hi7 => (simp only [List.getElem?_toArray, List.getElem?_cons_succ, List.getElem?_cons_zero]; try rfl)
  case hQ7 => exact fun _ _ _ h => h
  case hy7 =>
    refine Or.inl ⟨by rfl, ?_⟩
    (intro wq hSw; (try dsimp only at hSw); go_simp; try with_reducible rfl)
  (try simp only [Act.put, List.setIfInBounds_toArray, List.set_cons_zero, List.set_cons_succ])
  refine wpAnyH_take (i := 7) (oi := ?oi8) (v := ?v8) ?hi8 (by kernel_rfl) (by kernel_rfl) (by kernel_rfl) ?hQ8 ?hy8 (by assumption) ?hrest8
  case hi8 => (simp only [List.getElem?_toArray, List.getElem?_cons_succ, List.getElem?_cons_zero]; try rfl)
  case hQ8 => exact fun _ _ _ h => h
  case hy8 =>
    refine Or.inl ⟨by rfl, ?_⟩
    (intro wq hSw; (try dsimp only at hSw); go_simp; try with_reducible rfl)
  (try simp only [Act.put, List.setIfInBounds_toArray, List.set_cons_zero, List.set_cons_succ])
  refine wpAnyH_take (i := 8) (oi := ?oi9) (v := ?v9) ?hi9 (by kernel_rfl) (by kernel_rfl) (by kernel_rfl) ?hQ9 ?hy9 (by assumption) ?hrest9
  case hi9 => (simp only [List.getElem?_toArray, List.getElem?_cons_succ, List.getElem?_cons_zero]; try rfl)
  case hQ9 => exact fun _ _ _ h => h
  case hy9 =>
    refine Or.inl ⟨by rfl, ?_⟩
    (intro wq hSw; (try dsimp only at hSw); go_simp; try with_reducible rfl)
  (try simp only [Act.put, List.setIfInBounds_toArray, List.set_cons_zero, List.set_cons_succ])
  refine wpAnyH_take (i := 9) (oi := ?oi10) (v := ?v10) ?hi10 (by kernel_rfl) (by kernel_rfl) (by kernel_rfl) ?hQ10 ?hy10 (by assumption) ?hrest10
  case hi10 => (simp only [List.getElem?_toArray, List.getElem?_cons_succ, List.getElem?_cons_zero]; try rfl)
  case hQ10 => exact fun _ _ _ h => h
  case hy10 =>
    refine Or.inl ⟨by rfl, ?_⟩
    (intro wq hSw; (try dsimp only at hSw); go_simp; try with_reducible rfl)
  (try simp only [Act.put, List.setIfInBounds_toArray, List.set_cons_zero, List.set_cons_succ])
  refine wpAnyH_take (i := 10) (oi := ?oi11) (v := ?v11) ?hi11 (by kernel_rfl) (by kernel_rfl) (by kernel_rfl) ?hQ11 ?hy11 (by assumption) ?hrest11
  case hi11 => (simp only [List.getElem?_toArray, List.getElem?_cons_succ, List.getElem?_cons_zero]; try rfl)
  case hQ11 => exact fun _ _ _ h => h
  case hy11 =>
    refine Or.inl ⟨by rfl, ?_⟩
    (intro wq hSw; (try dsimp only at hSw); go_simp; try with_reducible rfl)
  (try simp only [Act.put, List.setIfInBounds_toArray, List.set_cons_zero, List.set_cons_succ])
  refine wpAnyH_take (i := 11) (oi := ?oi12) (v := ?v12) ?hi12 (by kernel_rfl) (by kernel_rfl) (by kernel_rfl) ?hQ12 ?hy12 (by assumption) ?hrest12
  case hi12 => (simp only [List.getElem?_toArray, List.getElem?_cons_succ, List.getElem?_cons_zero]; try rfl)
  case hQ12 => exact fun _ _ _ h => h
  case hy12 =>
    refine Or.inl ⟨by rfl, ?_⟩
    (intro wq hSw; (try dsimp only at hSw); go_simp; try with_reducible rfl)
  (try simp only [Act.put, List.setIfInBounds_toArray, List.set_cons_zero, List.set_cons_succ])
  refine wpAnyH_take (i := 12) (oi := ?oi13) (v := ?v13) ?hi13 (by kernel_rfl) (by kernel_rfl) (by kernel_rfl) ?hQ13 ?hy13 (by assumption) ?hrest13
  case hi13 => (simp only [List.getElem?_toArray, List.getElem?_cons_succ, List.getElem?_cons_zero]; try rfl)
  case hQ13 => exact fun _ _ _ h => h
  case hy13 =>
    refine Or.inl ⟨by rfl, ?_⟩
    (intro wq hSw; (try dsimp only at hSw); go_simp; try with_reducible rfl)
  (try simp only [Act.put, List.setIfInBounds_toArray, List.set_cons_zero, List.set_cons_succ])
  refine wpAnyH_take (i := 13) (oi := ?oi14) (v := ?v14) ?hi14 (by kernel_rfl) (by kernel_rfl) (by kernel_rfl) ?hQ14 ?hy14 (by assumption) ?hrest14
  case hi14 => (simp only [List.getElem?_toArray, List.getElem?_cons_succ, List.getElem?_cons_zero]; try rfl)
  case hQ14 => exact fun _ _ _ h => h
  case hy14 =>
    refine Or.inl ⟨by rfl, ?_⟩
    (intro wq hSw; (try dsimp only at hSw); go_simp; try with_reducible rfl)
  (try simp only [Act.put, List.setIfInBounds_toArray, List.set_cons_zero, List.set_cons_succ])
  refine wpAnyH_take (i := 14) (oi := ?oi15) (v := ?v15) ?hi15 (by kernel_rfl) (by kernel_rfl) (by kernel_rfl) ?hQ15 ?hy15 (by assumption) ?hrest15
  case hi15 => (simp only [List.getElem?_toArray, List.getElem?_cons_succ, List.getElem?_cons_zero]; try rfl)
  case hQ15 => exact fun _ _ _ h => h
  case hy15 =>
    refine Or.inl ⟨by rfl, ?_⟩
    (intro wq hSw; (try dsimp only at hSw); go_simp; try with_reducible rfl)
  (try simp only [Act.put, List.setIfInBounds_toArray, List.set_cons_zero, List.set_cons_succ])
  refine wpAnyH_take (i := 15) (oi := ?oi16) (v := ?v16) ?hi16 (by kernel_rfl) (by kernel_rfl) (by kernel_rfl) ?hQ16 ?hy16 (by assumption) ?hrest16
  case hi16 => (simp only [List.getElem?_toArray, List.getElem?_cons_succ, List.getElem?_cons_zero]; try rfl)
  case hQ16 => exact fun _ _ _ h => h
  case hy16 =>
    refine Or.inl ⟨by rfl, ?_⟩
    (intro wq hSw; (try dsimp only at hSw); go_simp; try with_reducible rfl)
  (try simp only [Act.put, List.setIfInBounds_toArray, List.set_cons_zero, List.set_cons_succ])
  refine wpAnyH_ready (rs := [16]) (by kernel_rfl) (by simp) ?_
  refine AllReadyH.cons (o := ?oi17) ?hi17 (fun K hK => ?hstep17) AllReadyH.nil
  case hi17 => (simp only [List.getElem?_toArray, List.getElem?_cons_succ, List.getElem?_cons_zero]; try rfl)
  go_simp
  (refine (KSM.out _ bcur).mono ?_; rintro e wx ⟨rfl, hbx⟩; have bcur := below_step bcur hbx)
  refine hK.out _ _ ?_ (fun hHeld => ?_)
  · exact below_step hHeld hbx
  clear hK K
  (try simp only [Act.put, List.setIfInBounds_toArray, List.set_cons_zero, List.set_cons_succ])
  refine wpAnyH_take (i := 17) (oi := ?oi18) (v := ?v18) ?hi18 (by kernel_rfl) (by kernel_rfl) (by kernel_rfl) ?hQ18 ?hy18 (by assumption) ?hrest18
  case hi18 => (simp only [List.getElem?_toArray, List.getElem?_cons_succ, List.getElem?_cons_zero]; try rfl)
  case hQ18 => exact fun _ _ _ h => h
  case hy18 =>
    refine Or.inl ⟨by rfl, ?_⟩
    (intro wq hSw; (try dsimp only at hSw); go_simp; try with_reducible rfl)
  (try simp only [Act.put, List.setIfInBounds_toArray, List.set_cons_zero, List.set_cons_succ])
  refine wpAnyH_take (i := 18) (oi := ?oi19) (v := ?v19) ?hi19 (by kernel_rfl) (by kernel_rfl) (by kernel_rfl) ?hQ19 ?hy19 (by assumption) ?hrest19
  case hi19 => (simp only [List.getElem?_toArray, List.getElem?_cons_succ, List.getElem?_cons_zero]; try rfl)
  case hQ19 => exact fun _ _ _ h => h
  case hy19 =>
    refine Or.inl ⟨by rfl, ?_⟩
    (intro wq hSw; (try dsimp only at hSw); go_simp; try with_reducible rfl)
  (try simp only [Act.put, List.setIfInBounds_toArray, List.set_cons_zero, List.set_cons_succ])
  refine wpAnyH_take (i := 19) (oi := ?oi20) (v := ?v20) ?hi20 (by kernel_rfl) (by kernel_rfl) (by kernel_rfl) ?hQ20 ?hy20 (by assumption) ?hrest20
  case hi20 => (simp only [List.getElem?_toArray, List.getElem?_cons_succ, List.getElem?_cons_zero]; try rfl)
  case hQ20 => exact fun _ _ _ h => h
  case hy20 =>
    refine Or.inl ⟨by rfl, ?_⟩
    (intro wq hSw; (try dsimp only at hSw); go_simp; try with_reducible rfl)
  (try simp only [Act.put, List.setIfInBounds_toArray, List.set_cons_zero, List.set_cons_succ])
  refine wpAnyH_take (i := 20) (oi := ?oi21) (v := ?v21) ?hi21 (by kernel_rfl) (by kernel_rfl) (by kernel_rfl) ?hQ21 ?hy21 (by assumption) ?hrest21
  case hi21 => (simp only [List.getElem?_toArray, List.getElem?_cons_succ, List.getElem?_cons_zero]; try rfl)
  case hQ21 => exact fun _ _ _ h => h
  case hy21 =>
    refine Or.inl ⟨by rfl, ?_⟩
    (intro wq hSw; (try dsimp only at hSw); go_simp; try with_reducible rfl)
  (try simp only [Act.put, List.setIfInBounds_toArray, List.set_cons_zero, List.set_cons_succ])
  refine wpAnyH_take (i := 21) (oi := ?oi22) (v := ?v22) ?hi22 (by kernel_rfl) (by kernel_rfl) (by kernel_rfl) ?hQ22 ?hy22 (by assumption) ?hrest22
  case hi22 => (simp only [List.getElem?_toArray, List.getElem?_cons_succ, List.getElem?_cons_zero]; try rfl)
  case hQ22 => exact fun _ _ _ h => h
  case hy22 =>
    refine Or.inl ⟨by rfl, ?_⟩
    (intro wq hSw; (try dsimp only at hSw); go_simp; try with_reducible rfl)
  (try simp only [Act.put, List.setIfInBounds_toArray, List.set_cons_zero, List.set_cons_succ])
  refine wpAnyH_take (i := 22) (oi := ?oi23) (v := ?v23) ?hi23 (by kernel_rfl) (by kernel_rfl) (by kernel_rfl) ?hQ23 ?hy23 (by assumption) ?hrest23
  case hi23 => (simp only [List.getElem?_toArray, List.getElem?_cons_succ, List.getElem?_cons_zero]; try rfl)
  case hQ23 => exact fun _ _ _ h => h
  case hy23 =>
    refine Or.inl ⟨by rfl, ?_⟩
    (intro wq hSw; (try dsimp only at hSw); go_simp; try with_reducible rfl)
  (try simp only [Act.put, List.setIfInBounds_toArray, List.set_cons_zero, List.set_cons_succ])
  refine wpAnyH_take (i := 23) (oi := ?oi24) (v := ?v24) ?hi24 (by kernel_rfl) (by kernel_rfl) (by kernel_rfl) ?hQ24 ?hy24 (by assumption) ?hrest24
  case hi24 => (simp only [List.getElem?_toArray, List.getElem?_cons_succ, List.getElem?_cons_zero]; try rfl)
  case hQ24 => exact fun _ _ _ h => h
  case hy24 =>
    refine Or.inl ⟨by rfl, ?_⟩
    (intro wq hSw; (try dsimp only at hSw); go_simp; try with_reducible rfl)
  (try simp only [Act.put, List.setIfInBounds_toArray, List.set_cons_zero, List.set_cons_succ])
  refine wpAnyH_take (i := 24) (oi := ?oi25) (v := ?v25) ?hi25 (by kernel_rfl) (by kernel_rfl) (by kernel_rfl) ?hQ25 ?hy25 (by assumption) ?hrest25
  case hi25 => (simp only [List.getElem?_toArray, List.getElem?_cons_succ, List.getElem?_cons_zero]; try rfl)
  case hQ25 => exact fun _ _ _ h => h
  case hy25 =>
    refine Or.inl ⟨by rfl, ?_⟩
    (intro wq hSw; (try dsimp only at hSw); go_simp; try with_reducible rfl)
  (try simp only [Act.put, List.setIfInBounds_toArray, List.set_cons_zero, List.set_cons_succ])
  refine wpAnyH_take (i := 26) (oi := ?oi26) (v := ?v26) ?hi26 (by kernel_rfl) (by kernel_rfl) (by kernel_rfl) ?hQ26 ?hy26 (by assumption) ?hrest26
  case hi26 => (simp only [List.getElem?_toArray, List.getElem?_cons_succ, List.getElem?_cons_zero]; try rfl)
  case hQ26 => exact fun _ _ _ h => h
  case hy26 =>
    refine Or.inl ⟨by rfl, ?_⟩
    (intro wq hSw; (try dsimp only at hSw); go_simp; try with_reducible rfl)
  (try simp only [Act.put, List.setIfInBounds_toArray, List.set_cons_zero, List.set_cons_succ])
  refine wpAnyH_ready (rs := [25]) (by kernel_rfl) (by simp) ?_
  refine AllReadyH.cons (o := ?oi27) ?hi27 (fun K hK => ?hstep27) AllReadyH.nil
  case hi27 => (simp only [List.getElem?_toArray, List.getElem?_cons_succ, List.getElem?_cons_zero]; try rfl)
  go_simp
  (refine (KR1.out _ bcur).mono ?_; rintro e wy ⟨rfl, hbx⟩; have bcur := below_step bcur hbx)
  refine hK.out _ _ ?_ (fun hHeld => ?_)
  · exact below_step hHeld hbx
  clear hK K
  (try simp only [Act.put, List.setIfInBounds_toArray, List.set_cons_zero, List.set_cons_succ])
  refine wpAnyH_ready (rs := [27]) (by kernel_rfl) (by simp) ?_
  refine AllReadyH.cons (o := ?oi28) ?hi28 (fun K hK => ?hstep28) AllReadyH.nil
  case hi28 => (simp only [List.getElem?_toArray, List.getElem?_cons_succ, List.getElem?_cons_zero]; try rfl)
  go_simp
  (refine (KT1.out _ bcur).mono ?_; rintro e wz ⟨rfl, hbx⟩; have bcur := below_step bcur hbx)
  refine hK.out _ _ ?_ (fun hHeld => ?_)
  · exact below_step hHeld hbx
  clear hK K
  (try simp only [Act.put, List.setIfInBounds_toArray, List.set_cons_zero, List.set_cons_succ])
  refine wpAnyH_take (i := 28) (oi := ?oi29) (v := ?v29) ?hi29 (by kernel_rfl) (by kernel_rfl) (by kernel_rfl) ?hQ29 ?hy29 (by assumption) ?hrest29
  case hi29 => (simp only [List.getElem?_toArray, List.getElem?_cons_succ, List.getElem?_cons_zero]; try rfl)
  case hQ29 => exact fun _ _ _ h => h
  case hy29 =>
    refine Or.inl ⟨by rfl, ?_⟩
    (intro wq hSw; (try dsimp only at hSw); go_simp; try with_reducible rfl)
  (try simp only [Act.put, List.setIfInBounds_toArray, List.set_cons_zero, List.set_cons_succ])
  refine wpAnyH_take (i := 29) (oi := ?oi30) (v := ?v30) ?hi30 (by kernel_rfl) (by kernel_rfl) (by kernel_rfl) ?hQ30 ?hy30 (by assumption) ?hrest30
  case hi30 => (simp only [List.getElem?_toArray, List.getElem?_cons_succ, List.getElem?_cons_zero]; try rfl)
  case hQ30 => exact fun _ _ _ h => h
  case hy30 =>
    refine Or.inl ⟨by rfl, ?_⟩
    (intro wq hSw; (try dsimp only at hSw); go_simp; try with_reducible rfl)
  (try simp only [Act.put, List.setIfInBounds_toArray, List.set_cons_zero, List.set_cons_succ])
  refine wpAnyH_take (i := 30) (oi := ?oi31) (v := ?v31) ?hi31 (by kernel_rfl) (by kernel_rfl) (by kernel_rfl) ?hQ31 ?hy31 (by assumption) ?hrest31
  case hi31 => (simp only [List.getElem?_toArray, List.getElem?_cons_succ, List.getElem?_cons_zero]; try rfl)
  case hQ31 => exact fun _ _ _ h => h
  case hy31 =>
    refine Or.inl ⟨by rfl, ?_⟩
    (intro wq hSw; (try dsimp only at hSw); go_simp; try with_reducible rfl)
  (try simp only [Act.put, List.setIfInBounds_toArray, List.set_cons_zero, List.set_cons_succ])
  refine wpAnyH_done (by kernel_rfl) ?_ _
  refine NoPanic.normal ?_
  (skip)
  go_wp2_with fail
  go_ret
  exact ⟨by simp, below_step b0 bcur⟩
end Go.Proofs.YtgkdnhbhmebmeaaDoor
