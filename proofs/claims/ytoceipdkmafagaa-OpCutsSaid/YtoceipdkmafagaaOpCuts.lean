import Derived.Test.YtoceipdkmafagaaOpS
import Derived.Test.YtoceipdkmafagaaOpHead
import Derived.Test.YtoceipdkmafagaaWireN
/-! OpCuts: an operation's bytes, and a reply's, cut anywhere, end too early. -/
namespace Go.Proofs.Ytoceipdkmafagaa
open Go.RowKit Go.Cov
theorem cut_at (cut : Int) (n : Nat) (h0 : 0 ≤ cut) (h1 : cut < 4294967296) (hn : 0 < n) (hn2 : n < 4294967296) : ∃ k : Nat, k < n ∧ IntKind.u32.wrap (n : Int) = (n : Int) ∧ cut.tmod (n : Int) = (k : Int) := by
  obtain ⟨c, rfl⟩ : ∃ c : Nat, cut = c := ⟨cut.toNat, by omega⟩
  refine ⟨c % n, Nat.mod_lt _ hn, ?_, ?_⟩
  · simp [IntKind.wrap, IntKind.signed, IntKind.bits]; omega
  · rfl
theorem putO_small {o : OD} (h : rightO o = true) : (putO o).length ≤ 100000 ∧ 40 ≤ (putO o).length := by
  rw [putO_len]
  unfold rightO at h
  rw [Bool.and_eq_true] at h
  have h1 := of_decide_eq_true h.1
  have h2 := valsB_le o.2.2.2.2.1 (fun x hx => by
    have := List.all_eq_true.1 h.2 x hx
    unfold argOk at this
    rw [Bool.and_eq_true] at this
    exact plain_le this.2) o.2.2.2.2.1.length
  rw [List.take_length] at h2
  omega
theorem putR_small {r : RD} (h : rightR r = true) : (putR r).length ≤ 100000 ∧ 57 ≤ (putR r).length := by
  rw [putR_len]
  unfold rightR at h
  rw [Bool.and_eq_true] at h
  have h1 := plain_le h.1
  have h2 := of_decide_eq_true h.2
  omega
set_option maxRecDepth 100000 in
set_option maxHeartbeats 6400000 in
theorem cuts_law (o : Oa) (r : Ra) (cut : Int) {w : World} (ho : OaOwn w o) (hr : RaRd w r) (io : intO o.data) (ir : intR r.data) (hct : 0 ≤ cut ∧ cut < 4294967296) :
    Calls Try.prog 8 #[o.val, r.val, .int .u32 cut] w fun e w' => e = .returned (.bool true) ∧ Below w.heap.size w w' := by
  have hov : o.val = .agg #[.int .i64 o.k, .string (str o.n), .slice o.sA o.s.length o.sc, .string (str o.f), .slice o.aA o.a.length o.ac, .int .i64 o.g, .slice o.kA o.key.length o.kc] := rfl
  have hrv : r.val = .agg #[.int .i64 r.er, .int .i64 r.pl, .int .i64 r.v.c, .int .i64 r.v.r, .slice r.v.A r.v.op.length r.v.cap, .int .i64 r.tr, .int .i64 r.us, .bool r.fd, .slice r.tA r.t.length r.tc] := rfl
  have KG := great_any o
  have KP := fun W (hW : OaOwn W o) => put_any o hW.rd hW.sc hW.kc
  have KQ := fun W (hW : RaRd W r) => putreply_any r hW
  rw [hov] at KG KP
  rw [hrv] at KQ
  rw [hov, hrv]
  clear hov hrv
  have KG := hid KG
  have KP := hid KP
  have KQ := hid KQ
  go_enter Try.func8, Try.ntmps8
  have bx0 := below_alloc w (.cells #[.int .i64 o.k, .string (str o.n), .slice o.sA o.s.length o.sc, .string (str o.f), .slice o.aA o.a.length o.ac, .int .i64 o.g, .slice o.kA o.key.length o.kc] 25)
  have Ro := Row.new w [.int .i64 o.k, .string (str o.n), .slice o.sA o.s.length o.sc, .string (str o.f), .slice o.aA o.a.length o.ac, .int .i64 o.g, .slice o.kA o.key.length o.kc] 25
  obtain ⟨wx0, hwx0⟩ : ∃ W, W = w.alloc (.cells #[.int .i64 o.k, .string (str o.n), .slice o.sA o.s.length o.sc, .string (str o.f), .slice o.aA o.a.length o.ac, .int .i64 o.g, .slice o.kA o.key.length o.kc] 25) := ⟨_, rfl⟩
  have nx0 : wx0.heap.size = w.heap.size + 1 := by rw [hwx0]; simp
  rw [← hwx0] at bx0 Ro
  have bx1 := below_alloc wx0 (.cells #[.int .i64 r.er, .int .i64 r.pl, .int .i64 r.v.c, .int .i64 r.v.r, .slice r.v.A r.v.op.length r.v.cap, .int .i64 r.tr, .int .i64 r.us, .bool r.fd, .slice r.tA r.t.length r.tc] 34)
  have Rr := Row.new wx0 [.int .i64 r.er, .int .i64 r.pl, .int .i64 r.v.c, .int .i64 r.v.r, .slice r.v.A r.v.op.length r.v.cap, .int .i64 r.tr, .int .i64 r.us, .bool r.fd, .slice r.tA r.t.length r.tc] 34
  replace Ro := Ro.below bx1
  rw [nx0] at Rr
  go_upto_region 1 with fail
  rw [← hwx0]
  clear hwx0
  generalize wx0.alloc _ = w2 at bx1 Ro Rr ⊢
  have b02 := below_step bx0 bx1
  clear bx0 bx1 nx0
  replace ho := ho.below b02
  replace hr := hr.below b02
  go_wp2_with fail
  refine (head_any w2).mono ?_
  rintro e w3 ⟨rfl, hb3⟩
  replace b02 := below_step b02 hb3
  replace Ro := Ro.below hb3
  replace Rr := Rr.below hb3
  replace ho := ho.below hb3
  replace hr := hr.below hb3
  have C0 := (Ro.2 0 _ rfl).1
  have C1 := (Ro.2 1 _ rfl).1
  have C2 := (Ro.2 2 _ rfl).1
  have C3 := (Ro.2 3 _ rfl).1
  have C4 := (Ro.2 4 _ rfl).1
  have C5 := (Ro.2 5 _ rfl).1
  have C6 := (Ro.2 6 _ rfl).1
  go_wp2_with fail
  refine (KG.out w3).mono ?_
  rintro e w4 ⟨gr, rfl, hb4⟩
  replace b02 := below_step b02 hb4
  clear C0 C1 C2 C3 C4 C5 C6
  replace Ro := Ro.below hb4
  replace Rr := Rr.below hb4
  replace ho := ho.below hb4
  replace hr := hr.below hb4
  cases gr
  case true =>
    go_wp2_with fail
    go_ret
    exact ⟨rfl, b02⟩
  have C0 := (Ro.2 0 _ rfl).1
  have C1 := (Ro.2 1 _ rfl).1
  have C2 := (Ro.2 2 _ rfl).1
  have C3 := (Ro.2 3 _ rfl).1
  have C4 := (Ro.2 4 _ rfl).1
  have C5 := (Ro.2 5 _ rfl).1
  have C6 := (Ro.2 6 _ rfl).1
  go_wp2_with fail
  refine (KP.out w4 ho).mono ?_
  rintro e w5 ⟨v5, rfl, own5, hb5⟩
  replace b02 := below_step b02 hb5
  obtain ⟨A5, c5, rfl, hc5, _⟩ := own_shape own5
  obtain ⟨⟨x5, e5⟩, hq5⟩ : ∃ q, bytesO o.data = q := ⟨_, rfl⟩
  rw [hq5] at own5 hc5 ⊢
  replace hq5 := hid hq5
  dsimp only at own5 hc5 ⊢
  clear C0 C1 C2 C3 C4 C5 C6
  replace Ro := Ro.below hb5
  replace Rr := Rr.below hb5
  replace ho := ho.below hb5
  replace hr := hr.below hb5
  have D0 := (Rr.2 0 _ rfl).1
  have D1 := (Rr.2 1 _ rfl).1
  have D2 := (Rr.2 2 _ rfl).1
  have D3 := (Rr.2 3 _ rfl).1
  have D4 := (Rr.2 4 _ rfl).1
  have D5 := (Rr.2 5 _ rfl).1
  have D6 := (Rr.2 6 _ rfl).1
  have D7 := (Rr.2 7 _ rfl).1
  have D8 := (Rr.2 8 _ rfl).1
  go_wp2_with fail
  refine (KQ.out w5 hr).mono ?_
  rintro e w6 ⟨v6, rfl, own6, hb6⟩
  replace b02 := below_step b02 hb6
  obtain ⟨A6, c6, rfl, hc6, _⟩ := own_shape own6
  obtain ⟨⟨x6, e6⟩, hq6⟩ : ∃ q, bytesRp r.data = q := ⟨_, rfl⟩
  rw [hq6] at own6 hc6 ⊢
  replace hq6 := hid hq6
  dsimp only at own6 hc6 ⊢
  replace own5 := own_below own5 hb6
  clear D0 D1 D2 D3 D4 D5 D6 D7 D8
  clear Ro Rr
  go_upto_region 6 with fail
  go_cut [36] (fun s36 wx => s36 = .bool (rightO o.data) ∧ wx = w6)
  case first =>
    cases hR : rightO o.data
    · have h1 := hq5.out
      rw [bytesO_no hR] at h1
      have j0 : (e5 == 0) = false := by rw [← (Prod.mk.inj h1).2]; rfl
      clear h1
      have hR := hid hR
      go_wp2_with fail
      go_meet
      exact ⟨congrArg Value.bool hR.out.symm, rfl⟩
    · have h1 := hq5.out
      rw [bytesO_ok hR] at h1
      have hs := putO_small hR
      have j0 : (e5 == 0) = true := by rw [← (Prod.mk.inj h1).2]; rfl
      have j2 : decide ((0 : Int) < (x5.length : Int)) = true := decide_eq_true (by rw [← (Prod.mk.inj h1).1]; omega)
      have j3 := hid (show 0 < x5.length by rw [← (Prod.mk.inj h1).1]; omega)
      clear h1 hs
      have hR := hid hR
      go_wp2_with fail
      go_meet
      exact ⟨congrArg Value.bool (by rw [hR.out]; exact decide_eq_true j3.out), rfl⟩
  case rest =>
  obtain ⟨rfl, rfl⟩ := hcut
  go_upto_if 36 with fail
  go_cut [] (fun wx => Below wc.heap.size wc wx)
  case first =>
    cases hR : rightO o.data
    · go_wp2_with fail
      go_meet
      exact Below.refl _ _
    · have hs := putO_small hR
      have h1 := hq5.out
      rw [bytesO_ok hR] at h1
      replace h1 := (Prod.mk.inj h1).1
      rw [h1] at hs
      obtain ⟨k, hk, ek1, ek2⟩ := cut_at cut x5.length hct.1 hct.2 (by omega) (by omega)
      have hcutO := op_cut hR io (c := k) (by rw [h1]; exact hk)
      rw [h1] at hcutO
      have ht := hid (show (x5.take k).length = k by rw [List.length_take]; omega)
      have rd7 : Rd wc A5 ((x5.take k).map byt) := by
        rw [List.map_take]
        exact (own_rd own5).take k
      have KG7 := hid (get_n k ht.out rd7 (by omega : k ≤ c5) (by omega))
      rw [hcutO] at KG7
      clear hcutO rd7 own5 ht io h1
      have hR := hid hR
      have w1 : wrap64 (k : Int) = (k : Int) := by simp only [wrap64]; omega
      have i1 : (k : Int) ≤ (c5 : Int) := by omega
      have i2 : k ≤ c5 := by omega
      clear hs
      go_wp2_with fail
      refine KG7.out.mono ?_
      rintro e w7 ⟨o7, rfl, d7, ho7, hb7⟩
      have b8 := below_step hb7 (below_alloc w7 (.cells o7.cells.toArray 25))
      unfold Oa.cells at b8
      unfold Oa.val
      go_wp2_with fail
      go_meet
      exact b8
  case rest =>
  have own7 := own_below own6 hcut
  have b9 := below_step b02 hcut
  clear own5 own6 ho hr KG KP KQ hq5 hc5 b02 hcut
  cases hR : rightR r.data
  · have h1 := hq6.out
    rw [bytesRp_no hR] at h1
    have j0 : (e6 != 0) = true := by rw [← (Prod.mk.inj h1).2]; rfl
    clear h1 hR
    go_wp2_with fail
    go_ret
    exact ⟨rfl, b9⟩
  · have hs := putR_small hR
    have h1 := hq6.out
    rw [bytesRp_ok hR] at h1
    have j0 : (e6 != 0) = false := by rw [← (Prod.mk.inj h1).2]; rfl
    replace h1 := (Prod.mk.inj h1).1
    rw [h1] at hs
    have j1 : ((x6.length : Int) == 0) = false := by simp; intro hh; rw [hh] at hs; simp at hs
    obtain ⟨k, hk, ek1, ek2⟩ := cut_at cut x6.length hct.1 hct.2 (by omega) (by omega)
    have hcutO := reply_cut hR ir (c := k) (by rw [h1]; exact hk)
    rw [h1] at hcutO
    have ht := hid (show (x6.take k).length = k by rw [List.length_take]; omega)
    have rd7 : Rd wc A6 ((x6.take k).map byt) := by
      rw [List.map_take]
      exact (own_rd own7).take k
    have KG7 := hid (getreply_n k ht.out rd7 (by omega : k ≤ c6) (by omega))
    rw [hcutO] at KG7
    clear hcutO rd7 own7 ht ir h1
    have hR := hid hR
    have w1 : wrap64 (k : Int) = (k : Int) := by simp only [wrap64]; omega
    have i1 : (k : Int) ≤ (c6 : Int) := by omega
    have i2 : k ≤ c6 := by omega
    clear hs
    go_wp2_with fail
    refine KG7.out.mono ?_
    rintro e w7 ⟨o7, rfl, d7, ho7, hb7⟩
    have b8 := below_step hb7 (below_alloc w7 (.cells o7.cells.toArray 34))
    unfold Ra.cells at b8
    unfold Ra.val
    go_wp2_with fail
    go_ret
    exact ⟨rfl, below_step b9 b8⟩
end Go.Proofs.Ytoceipdkmafagaa
