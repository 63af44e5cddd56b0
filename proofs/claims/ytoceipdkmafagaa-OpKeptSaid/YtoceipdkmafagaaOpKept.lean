import Derived.Test.YtoceipdkmafagaaOpHead
import Derived.Test.YtoceipdkmafagaaWireN
/-! OpKept: what is read of any bytes, as an operation or a reply, has the bytes as they stood. -/
namespace Go.Proofs.Ytoceipdkmafagaa
open Go.RowKit Go.Cov
set_option maxRecDepth 100000 in
set_option maxHeartbeats 3200000 in
theorem kept_law {A : Option Addr} {c : Nat} {l : List UInt8} {w : World} (h : Rd w A (l.map byt)) (hc : l.length ≤ c) (hl : l.length ≤ 140737488351236) :
    Calls Try.prog 7 #[.slice A l.length c] w fun e w' => e = .returned (.bool true) ∧ Below w.heap.size w w' := by
  have cv1 := fun (W : World) (hW : Rd W A (l.map byt)) => conv_text W hW c
  go_enter Try.func7, Try.ntmps7
  go_wp2_with fail
  refine (head_any w).mono ?_
  rintro e w1 ⟨rfl, hb1⟩
  go_wp2_with fail
  refine (get_any (h.below hb1) hc hl).mono ?_
  rintro e w2 ⟨o, rfl, d, ho, hb2⟩
  have b2 := below_step hb1 hb2
  obtain ⟨er, her⟩ : ∃ er, er = (readO l).2 := ⟨_, rfl⟩
  rw [← her]
  replace her := hid her
  have R := Row.new w2 o.cells 25
  have b3 := below_alloc w2 (.cells o.cells.toArray 25)
  unfold Oa.cells at R b3
  have ov : o.val = .agg #[.int .i64 o.k, .string (str o.n), .slice o.sA o.s.length o.sc, .string (str o.f), .slice o.aA o.a.length o.ac, .int .i64 o.g, .slice o.kA o.key.length o.kc] := rfl
  have KP := fun W (hW : OaRd W o) => put_any o hW ho.sc ho.kc
  have KR := fun W (hW : OaRd W o) => right_any o hW
  rw [ov] at KP KR ⊢
  clear ov
  go_upto_region 3 with fail
  generalize w2.alloc _ = w3 at R b3 ⊢
  have b03 := below_step b2 b3
  have ho3 := ho.below b3
  go_upto_if 19 with fail
  go_cut [] (fun wx => Below w.heap.size w wx)
  case first =>
    by_cases hz : er = 0
    · subst hz
      have hk := op_kept (o := o.data) (l := l) (Prod.ext d.symm her.out.symm)
      obtain ⟨hk1, hk2⟩ := hk
      have e1 := bytesO_ok hk1
      rw [e1] at KP
      rw [hk1] at KR
      dsimp only at KP
      rw [hk2] at KP
      clear e1 hk1 hk2 her d
      have C0 := (R.2 0 _ rfl).1
      have C1 := (R.2 1 _ rfl).1
      have C2 := (R.2 2 _ rfl).1
      have C3 := (R.2 3 _ rfl).1
      have C4 := (R.2 4 _ rfl).1
      have C5 := (R.2 5 _ rfl).1
      have C6 := (R.2 6 _ rfl).1
      go_wp2_with fail
      refine (KP _ ho3.rd).mono ?_
      rintro e w4 ⟨v4, rfl, own4, hb4⟩
      obtain ⟨A4, c4, rfl, _⟩ := own_shape own4
      have ho4 := ho3.below hb4
      have D0 := cell_on hb4 C0
      have D1 := cell_on hb4 C1
      have D2 := cell_on hb4 C2
      have D3 := cell_on hb4 C3
      have D4 := cell_on hb4 C4
      have D5 := cell_on hb4 C5
      have D6 := cell_on hb4 C6
      have b04 := below_step b03 hb4
      have x1 := conv_text w4 (own_rd own4) c4
      have x2 := cv1 w4 (h.below b04)
      clear cv1 own4 C0 C1 C2 C3 C4 C5 C6
      go_wp2_with fail
      refine (KR _ ho4.rd).mono ?_
      rintro e w5 ⟨rfl, hb5⟩
      go_wp2_with fail
      go_meet
      exact below_step b04 hb5
    · have jz : (er == 0) = false := by simp [hz]
      go_wp2_with fail
      go_meet
      exact b03
  case rest =>
  clear R b3 KP KR ho ho3 hb1 hb2 b2 d her b03
  have b3 := hcut
  go_wp2_with fail
  refine (getreply_any (h.below b3) hc hl).mono ?_
  rintro e w4 ⟨r, rfl, d, hr, hb4⟩
  have b4 := below_step b3 hb4
  obtain ⟨er, her⟩ : ∃ er, er = (readR l).2 := ⟨_, rfl⟩
  rw [← her]
  replace her := hid her
  have R := Row.new w4 r.cells 34
  have b5 := below_alloc w4 (.cells r.cells.toArray 34)
  unfold Ra.cells at R b5
  have rv : r.val = .agg #[.int .i64 r.er, .int .i64 r.pl, .int .i64 r.v.c, .int .i64 r.v.r, .slice r.v.A r.v.op.length r.v.cap, .int .i64 r.tr, .int .i64 r.us, .bool r.fd, .slice r.tA r.t.length r.tc] := rfl
  have KP := fun W (hW : RaRd W r) => putreply_any r hW
  rw [rv] at KP ⊢
  clear rv
  go_upto_region 8 with fail
  generalize w4.alloc _ = w5 at R b5 ⊢
  have b05 := below_step b4 b5
  have hr5 := hr.below b5
  have C0 := (R.2 0 _ rfl).1
  have C1 := (R.2 1 _ rfl).1
  have C2 := (R.2 2 _ rfl).1
  have C3 := (R.2 3 _ rfl).1
  have C4 := (R.2 4 _ rfl).1
  have C5 := (R.2 5 _ rfl).1
  have C6 := (R.2 6 _ rfl).1
  have C7 := (R.2 7 _ rfl).1
  have C8 := (R.2 8 _ rfl).1
  clear R
  by_cases hz : er = 0
  · subst hz
    have jz : ((0 : Int) != 0) = false := rfl
    have hk := reply_kept (r := r.data) (l := l) (Prod.ext d.symm her.out.symm)
    obtain ⟨hk1, hk2⟩ := hk
    have e1 := bytesRp_ok hk1
    rw [e1] at KP
    dsimp only at KP
    rw [hk2] at KP
    clear e1 hk1 hk2 her d
    go_wp2_with fail
    refine (KP _ hr5).mono ?_
    rintro e w6 ⟨v6, rfl, own6, hb6⟩
    obtain ⟨A6, c6, rfl, _⟩ := own_shape own6
    have b06 := below_step b05 hb6
    have x1 := conv_text w6 (own_rd own6) c6
    have x2 := cv1 w6 (h.below b06)
    clear cv1 own6 C0 C1 C2 C3 C4 C5 C6 C7 C8
    go_wp2_with fail
    go_ret
    exact ⟨rfl, b06⟩
  · have jz : (er != 0) = true := by simp [hz]
    have dz : r.data = zeroR := by
      rw [d]
      have hw : readR l = whole rightR 151 zeroR getR2 l := rfl
      have hwe := whole_end rightR zeroR getR2 l (a := (getR2 l (0, 0)).1) (s := (getR2 l (0, 0)).2) rfl
      rw [← hw] at hwe
      replace her := her.out
      rw [hwe] at her ⊢
      dsimp only at her ⊢
      rw [← her, if_neg hz]
    have k0 : (r.er == 0) = true := by
      have : r.er = 0 := congrArg (·.1) dz
      rw [this]; rfl
    have k1 : ((r.t.length : Int) == 0) = true := by
      have : r.t = [] := congrArg (fun (x : RD) => x.2.2.2.2.2.2) dz
      rw [this]; rfl
    clear d dz her
    go_wp2_with fail
    go_ret
    exact ⟨rfl, b05⟩
end Go.Proofs.Ytoceipdkmafagaa
