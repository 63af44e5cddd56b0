import Derived.Test.YtoceipdkmafagaaOpS
import Derived.Test.YtoceipdkmafagaaOpHead
/-! OpSizes: an operation's bytes are as many as its parts ask for; a reply's, too. -/
namespace Go.Proofs.Ytoceipdkmafagaa
open Go.RowKit Go.Cov
/-- so many bytes have the first k arguments -/
def argsN (xs : List En) (k : Nat) : Nat := (((xs.map En.data).take k).flatMap putV).length
theorem argsN_step (xs : List En) (k : Nat) (hk : k < xs.length) : argsN xs (k + 1) = argsN xs k + 20 + xs[k].op.length := by
  unfold argsN
  rw [valsB_step (xs.map En.data) k (by simpa using hk), List.length_append, putV_len, List.getElem_map]
  simp only [En.data]; omega
theorem argsN_all (o : Oa) : (putO o.data).length = 40 + (o.n.length + o.s.length + o.f.length + o.key.length) + argsN o.a o.a.length := by
  rw [putO_len]
  unfold argsN
  rw [List.take_of_length_le (by simp)]
  rfl
set_option maxRecDepth 100000 in
set_option maxHeartbeats 6400000 in
theorem sizes_law (o : Oa) (r : Ra) {w : World} (ho : OaOwn w o) (hr : RaRd w r) :
    Calls Try.prog 3 #[o.val, r.val] w fun e w' => e = .returned (.bool true) ∧ Below w.heap.size w w' := by
  have hov : o.val = .agg #[.int .i64 o.k, .string (str o.n), .slice o.sA o.s.length o.sc, .string (str o.f), .slice o.aA o.a.length o.ac, .int .i64 o.g, .slice o.kA o.key.length o.kc] := rfl
  have hrv : r.val = .agg #[.int .i64 r.er, .int .i64 r.pl, .int .i64 r.v.c, .int .i64 r.v.r, .slice r.v.A r.v.op.length r.v.cap, .int .i64 r.tr, .int .i64 r.us, .bool r.fd, .slice r.tA r.t.length r.tc] := rfl
  have KG := great_any o
  have KP := fun W (hW : OaOwn W o) => put_any o hW.rd hW.sc hW.kc
  have KQ := fun W (hW : RaRd W r) => putreply_any r hW
  rw [hov] at KG KP
  rw [hrv] at KQ
  rw [hov, hrv]
  clear hov hrv
  have KG := hid KG
  have KP := hid KP
  have KQ := hid KQ
  have s1 := size_str o.n
  have s2 := size_str o.f
  go_enter Try.func3, Try.ntmps3
  have bx0 := below_alloc w (.cells #[.int .i64 o.k, .string (str o.n), .slice o.sA o.s.length o.sc, .string (str o.f), .slice o.aA o.a.length o.ac, .int .i64 o.g, .slice o.kA o.key.length o.kc] 25)
  have Ro := Row.new w [.int .i64 o.k, .string (str o.n), .slice o.sA o.s.length o.sc, .string (str o.f), .slice o.aA o.a.length o.ac, .int .i64 o.g, .slice o.kA o.key.length o.kc] 25
  obtain ⟨wx0, hwx0⟩ : ∃ W, W = w.alloc (.cells #[.int .i64 o.k, .string (str o.n), .slice o.sA o.s.length o.sc, .string (str o.f), .slice o.aA o.a.length o.ac, .int .i64 o.g, .slice o.kA o.key.length o.kc] 25) := ⟨_, rfl⟩
  have nx0 : wx0.heap.size = w.heap.size + 1 := by rw [hwx0]; simp
  rw [← hwx0] at bx0 Ro
  have bx1 := below_alloc wx0 (.cells #[.int .i64 r.er, .int .i64 r.pl, .int .i64 r.v.c, .int .i64 r.v.r, .slice r.v.A r.v.op.length r.v.cap, .int .i64 r.tr, .int .i64 r.us, .bool r.fd, .slice r.tA r.t.length r.tc] 34)
  have Rr := Row.new wx0 [.int .i64 r.er, .int .i64 r.pl, .int .i64 r.v.c, .int .i64 r.v.r, .slice r.v.A r.v.op.length r.v.cap, .int .i64 r.tr, .int .i64 r.us, .bool r.fd, .slice r.tA r.t.length r.tc] 34
  replace Ro := Ro.below bx1
  rw [nx0] at Rr
  go_upto_region 1 with fail
  rw [← hwx0]
  clear hwx0
  generalize wx0.alloc _ = w2 at bx1 Ro Rr ⊢
  have b02 := below_step bx0 bx1
  clear bx0 bx1 nx0
  replace ho := ho.below b02
  replace hr := hr.below b02
  go_wp2_with fail
  refine (head_any w2).mono ?_
  rintro e w3 ⟨rfl, hb3⟩
  replace b02 := below_step b02 hb3
  replace Ro := Ro.below hb3
  replace Rr := Rr.below hb3
  replace ho := ho.below hb3
  replace hr := hr.below hb3
  have C0 := (Ro.2 0 _ rfl).1
  have C1 := (Ro.2 1 _ rfl).1
  have C2 := (Ro.2 2 _ rfl).1
  have C3 := (Ro.2 3 _ rfl).1
  have C4 := (Ro.2 4 _ rfl).1
  have C5 := (Ro.2 5 _ rfl).1
  have C6 := (Ro.2 6 _ rfl).1
  go_wp2_with fail
  refine (KG.out w3).mono ?_
  rintro e w4 ⟨gr, rfl, hb4⟩
  replace b02 := below_step b02 hb4
  clear C0 C1 C2 C3 C4 C5 C6
  replace Ro := Ro.below hb4
  replace Rr := Rr.below hb4
  replace ho := ho.below hb4
  replace hr := hr.below hb4
  cases gr
  case true =>
    go_wp2_with fail
    go_ret
    exact ⟨rfl, b02⟩
  have C0 := (Ro.2 0 _ rfl).1
  have C1 := (Ro.2 1 _ rfl).1
  have C2 := (Ro.2 2 _ rfl).1
  have C3 := (Ro.2 3 _ rfl).1
  have C4 := (Ro.2 4 _ rfl).1
  have C5 := (Ro.2 5 _ rfl).1
  have C6 := (Ro.2 6 _ rfl).1
  go_wp2_with fail
  refine (KP.out w4 ho).mono ?_
  rintro e w5 ⟨v5, rfl, own5, hb5⟩
  replace b02 := below_step b02 hb5
  obtain ⟨A5, c5, rfl, hc5, _⟩ := own_shape own5
  obtain ⟨⟨x5, e5⟩, hq5⟩ : ∃ q, bytesO o.data = q := ⟨_, rfl⟩
  rw [hq5] at own5 hc5 ⊢
  replace hq5 := hid hq5
  dsimp only at own5 hc5 ⊢
  clear C0 C1 C2 C3 C4 C5 C6
  replace Ro := Ro.below hb5
  replace Rr := Rr.below hb5
  replace ho := ho.below hb5
  replace hr := hr.below hb5
  go_upto_region 5 with fail
  go_cut [22] (fun s22 wx => s22 = .bool (rightO o.data) ∧ wx = w5)
  case first =>
    cases hR : rightO o.data
    · have h1 := hq5.out
      rw [bytesO_no hR] at h1
      have j0 : (e5 == 0) = false := by rw [← (Prod.mk.inj h1).2]; rfl
      clear h1
      have hR := hid hR
      go_wp2_with fail
      go_meet
      exact ⟨congrArg Value.bool hR.out.symm, rfl⟩
    · have h1 := hq5.out
      rw [bytesO_ok hR] at h1
      have j0 : (e5 == 0) = true := by rw [← (Prod.mk.inj h1).2]; rfl
      clear h1
      have hR := hid hR
      go_wp2_with fail
      go_meet
      exact ⟨congrArg Value.bool hR.out.symm, rfl⟩
  case rest =>
  obtain ⟨rfl, rfl⟩ := hcut
  go_upto_if 22 with fail
  go_cut [] (fun wx => wx = wc)
  case first =>
    cases hR : rightO o.data
    · go_wp2_with fail
      go_meet
      rfl
    · have h1 := hq5.out
      rw [bytesO_ok hR] at h1
      replace h1 := (Prod.mk.inj h1).1
      have hs := argsN_all o
      rw [h1] at hs
      have hsm : x5.length ≤ 100000 := by
        have h2 := putO_len o.data
        rw [h1] at h2
        have hR2 := hR
        unfold rightO at hR2
        rw [Bool.and_eq_true] at hR2
        have h3 := of_decide_eq_true hR2.1
        have h4 := valsB_le o.data.2.2.2.2.1 (fun x hx => by
          have := List.all_eq_true.1 hR2.2 x hx
          unfold argOk at this
          rw [Bool.and_eq_true] at this
          exact plain_le this.2) o.data.2.2.2.2.1.length
        rw [List.take_length] at h4
        omega
      clear h1
      have hR := hid hR
      have hmono : ∀ k, k ≤ o.a.length → argsN o.a k ≤ argsN o.a o.a.length := fun k hk => by
        induction hd : o.a.length - k generalizing k with
        | zero => have : k = o.a.length := by omega
                  rw [this]; exact Nat.le_refl _
        | succ d ih =>
          have h1 := argsN_step o.a k (by omega)
          have h2 := ih (k + 1) (by omega) (by omega)
          omega
      have HS := hid hs
      clear hs
      have hp1 : o.n.length ≤ 100000 := by have := HS.out; omega
      have hp2 : o.s.length ≤ 100000 := by have := HS.out; omega
      have hp3 : o.f.length ≤ 100000 := by have := HS.out; omega
      have hp4 : o.key.length ≤ 100000 := by have := HS.out; omega
      have C0 := (Ro.2 0 _ rfl).1
      have C1 := (Ro.2 1 _ rfl).1
      have C2 := (Ro.2 2 _ rfl).1
      have C3 := (Ro.2 3 _ rfl).1
      have C4 := (Ro.2 4 _ rfl).1
      have C5 := (Ro.2 5 _ rfl).1
      have C6 := (Ro.2 6 _ rfl).1
      go_wp2_with fail
      go_loopw [8, 9] (fun s8 i W => ∃ k : Nat, k ≤ o.a.length ∧ i = .int .i64 k ∧ s8 = .int .i64 ((40 + (o.n.length + o.s.length + o.f.length + o.key.length) + argsN o.a k : Nat) : Int) ∧ W = wc) (fun _ i _ => o.a.length - (RowKit.intOf i).toNat)
      case atStart => exact ⟨0, by omega, rfl, by simp [argsN]; omega, rfl⟩
      case round =>
        obtain ⟨k, hk, rfl, rfl, rfl⟩ := hrel
        have hN1 := hmono k hk
        obtain ⟨N, hN⟩ : ∃ N, Hid (N = 40 + (o.n.length + o.s.length + o.f.length + o.key.length) + argsN o.a k) := ⟨_, hid rfl⟩
        have hN2 : N ≤ 100000 := by have := hN.out; have := HS.out; omega
        rw [← hN.out]
        by_cases hlt : k < o.a.length
        · have hst := argsN_step o.a k hlt
          have hN3 := hmono (k + 1) (by omega)
          have hN4 : N + 20 + o.a[k].op.length ≤ 100000 := by have := hN.out; have := HS.out; omega
          have HST := hid (show N + 20 + o.a[k].op.length = 40 + (o.n.length + o.s.length + o.f.length + o.key.length) + argsN o.a (k + 1) by have := hN.out; omega)
          have hm2 : o.a.length ≤ 9223372036854775807 := ho.rd.am
          clear hst hN3 hN1 hN
          have i1 : (k : Int) < o.a.length := by omega
          obtain ⟨ad, hA, x0, x1, x2, rx⟩ := en_at ho.rd.a k hlt
          rw [hA] at C4
          replace hA := hid hA
          generalize o.a[k].op.length = m at x2 HST hN4
          go_wp2_with fail
          go_roundw
          case rel => exact ⟨k + 1, by omega, by go_num, by rw [← HST.out]; simp, trivial⟩
          case measure => simp [RowKit.intOf]; omega
        · obtain rfl : k = o.a.length := by omega
          have hne : ((x5.length : Int) != (N : Int)) = false := by simp; have := hN.out; have := HS.out; omega
          clear hN hN1
          go_wp2_with fail
          go_meet
          rfl
  case rest =>
  subst hcut
  clear own5 hc5 hq5
  have D0 := (Rr.2 0 _ rfl).1
  have D1 := (Rr.2 1 _ rfl).1
  have D2 := (Rr.2 2 _ rfl).1
  have D3 := (Rr.2 3 _ rfl).1
  have D4 := (Rr.2 4 _ rfl).1
  have D5 := (Rr.2 5 _ rfl).1
  have D6 := (Rr.2 6 _ rfl).1
  have D7 := (Rr.2 7 _ rfl).1
  have D8 := (Rr.2 8 _ rfl).1
  go_wp2_with fail
  refine (KQ.out wc hr).mono ?_
  rintro e w6 ⟨v6, rfl, own6, hb6⟩
  replace b02 := below_step b02 hb6
  obtain ⟨A6, c6, rfl, hc6, _⟩ := own_shape own6
  obtain ⟨⟨x6, e6⟩, hq6⟩ : ∃ q, bytesRp r.data = q := ⟨_, rfl⟩
  rw [hq6] at own6 hc6 ⊢
  replace hq6 := hid hq6
  dsimp only at own6 hc6 ⊢
  clear D0 D1 D2 D3 D4 D5 D6 D7 D8
  replace Ro := Ro.below hb6
  replace Rr := Rr.below hb6
  have D0 := (Rr.2 0 _ rfl).1
  have D1 := (Rr.2 1 _ rfl).1
  have D2 := (Rr.2 2 _ rfl).1
  have D3 := (Rr.2 3 _ rfl).1
  have D4 := (Rr.2 4 _ rfl).1
  have D5 := (Rr.2 5 _ rfl).1
  have D6 := (Rr.2 6 _ rfl).1
  have D7 := (Rr.2 7 _ rfl).1
  have D8 := (Rr.2 8 _ rfl).1
  cases hR : rightR r.data
  · have h1 := hq6.out
    rw [bytesRp_no hR] at h1
    have j0 : (e6 != 0) = true := by rw [← (Prod.mk.inj h1).2]; rfl
    clear h1 hR
    go_wp2_with fail
    go_ret
    exact ⟨rfl, b02⟩
  · have h1 := hq6.out
    rw [bytesRp_ok hR] at h1
    have j0 : (e6 != 0) = false := by rw [← (Prod.mk.inj h1).2]; rfl
    replace h1 := (Prod.mk.inj h1).1
    have hl := putR_len r.data
    rw [h1] at hl
    have hR1 : r.v.op.length ≤ 256 ∧ r.t.length ≤ 65536 := by
      unfold rightR at hR
      rw [Bool.and_eq_true] at hR
      exact ⟨plain_le (v := r.v.data) hR.1, of_decide_eq_true hR.2⟩
    have hl2 : x6.length = 57 + r.v.op.length + r.t.length := hl
    clear hl h1 hR
    have hl3 : ((x6.length : Int) == 57 + (r.v.op.length : Int) + (r.t.length : Int)) = true := by simp; omega
    replace hl2 := hid hl2
    generalize x6.length = n6 at hl3 ⊢
    go_wp2_with fail
    go_ret
    exact ⟨rfl, b02⟩
end Go.Proofs.Ytoceipdkmafagaa
