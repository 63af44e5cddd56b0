/-
  The walk of the law ClientOnce.
-/
import Derived.Test.YtelmndpelgbboaaCliR
namespace Go.Proofs.Ytelmndpelgbboaa
open Go.RowKit Go.Conc Go.Cov Go.Lib
theorem rq_of {W : World} {A : Option Addr} {rs : List Rq} (h : Els rqEl W A rs) (i : Nat) (hi : i < rs.length) : ∃ ad, A = some ad ∧ (∀ j u, (reqL rs[i].q rs[i].n rs[i].c rs[i].val)[j]? = some u → W.cell? ((ad.add (i * 15)).add j) = some u) := by
  obtain ⟨ad, hA, hc, hp⟩ := h.at' i hi
  exact ⟨ad, hA, hc⟩
set_option maxRecDepth 100000 in
set_option maxHeartbeats 6400000 in
theorem once_law {B : Option Addr} {d : Nat} {os : List Qw} {w : World} (g : Int) (hg : 0 ≤ g ∧ g < 256) (hq : Els qwEl w B os) :
    Calls Try.prog 6 #[.int .u8 g, .slice B os.length d] w fun e w' => e = .returned (.bool true) ∧ Below w.heap.size w w' := by
  have hw3 : IntKind.i64.wrap g = g := wrap_of _ (by omega) (by omega)
  have hw4 : IntKind.i64.wrap (1 + g) = 1 + g := wrap_of _ (by omega) (by omega)
  go_enter Try.func6, Try.ntmps6
  go_wp2_with fail
  refine (chead_any w).mono ?_
  rintro e w1 ⟨rfl, hb1⟩
  go_wp2_with fail
  have hok : okC 1 5 (1 + g) 64 := by unfold okC; omega
  refine (new_cl hok w1).mono ?_
  rintro e w2 ⟨cb, xb, xc, rfl, hC0, hb2⟩
  have b2 := below_step hb1 hb2
  have hs1 := hb1.size
  go_wp2_with fail
  refine (cgreat_any (hq.below b2)).mono ?_
  rintro e w3 ⟨gr, rfl, hgr, hb3⟩
  have b3 := below_step b2 hb3
  have hC0 := hC0.gro hb3
  cases gr
  case true =>
    go_wp2_with fail
    go_ret
    exact ⟨rfl, b3⟩
  case false =>
    obtain ⟨hfew, hlen⟩ := hgr rfl
    clear hgr
    go_wp2_with fail
    go_loopw [7, 8, 9] (fun a t i W => ∃ (k : Nat) (s : Cs) (tn : Int), k ≤ os.length ∧ i = .int .i64 k ∧ a = .int .i64 s.count ∧ t = .int .i64 tn ∧ Onc g s tn ∧ Cl W w1.heap.size cb s ∧ w1.heap.size ≤ W.heap.size ∧ Below w.heap.size w W) (fun a t i _ => os.length - (RowKit.intOf i).toNat)
    case atStart => exact ⟨0, new0 1 5 (1 + g) 64 xb xc, 0, by omega, rfl, rfl, rfl, onc_new hok xb xc, hC0, Nat.le_trans hb2.size hb3.size, b3⟩
    case round =>
      obtain ⟨k, s, tn, hk, rfl, rfl, rfl, hO, hC, hws, hb⟩ := hrel
      by_cases hlt : k < os.length
      · have i1 : (k : Int) < os.length := by omega
        obtain ⟨ad, rfl, hc, r1, r2⟩ := qw_at hq k hlt
        obtain ⟨hl1, hl2⟩ := hfew os[k] (List.getElem_mem hlt)
        generalize os[k] = x at hc r1 r2 hl1 hl2
        have c0 : wr.cell? (ad.add (k * 17)) = some (.int .i64 x.what) := cell_on hb (by have := hc 0 _ rfl; rwa [add_zero'] at this)
        have rb : ∀ W, Gro cb s.xc wr W → Rd W x.A (x.body.map byt) := fun W hW => r1.below (hb.trans ((hW.below hC.lo.1 hC.lo.2.2 hws).mono hs1))
        have rm : ∀ W, Gro cb s.xc wr W → Rd W x.m.A (x.m.body.map byt) := fun W hW => r2.below (hb.trans ((hW.below hC.lo.1 hC.lo.2.2 hws).mono hs1))
        have RB := hid rb
        have RM := hid rm
        clear rb rm r1 r2
        obtain ⟨z, hz⟩ : ∃ z, bits .and .i64 x.what 7 = z := ⟨_, rfl⟩
        by_cases ez : z = 0
        · subst ez
          have HC := hid hc
          clear hc
          have c1 : wr.cell? ⟨(ad.add (k * 17)).block, (ad.add (k * 17)).off + 1, none⟩ = some (.slice x.A x.body.length x.c) := cell_on hb (HC.out 1 _ rfl)
          go_wp2_with fail
          refine (waits_cl hC).mono ?_
          rintro e wx ⟨rfl, rfl⟩
          by_cases hm : mayAsk s x.body
          · have hwt : s.waits = false := hm.1
            have KA := ask_yes (d := x.c) hC hO.1 hm RB.out
            obtain ⟨n, hn⟩ : ∃ n, n = 1 := ⟨_, rfl⟩
            rw [← hn] at KA
            have KA := KA.mono fun e w' (h : ∃ V k g, e = .returned (.tuple #[.slice (some ⟨g, 0, none⟩) n n, .bool true]) ∧ _) => show ∃ V k A, e = .returned (.tuple #[.slice A n n, .bool true]) ∧ Cl w' w1.heap.size cb (asks s x.body V k) ∧ Els rqEl w' A [⟨s.view % (2 * s.f + 1), s.number, s.count + 1, V, k, x.body⟩] ∧ (x.body.length ≤ k ∧ k ≤ maxLen) ∧ Gro cb s.xc _ w' from by
              obtain ⟨V, k, g, h1, h2, h3, _, _, h4, h5⟩ := h
              exact ⟨V, k, _, h1, h2, h3, h4, h5⟩
            have n1 : ((n : Int) != 1) = false := by rw [hn]; rfl
            have ec : IntKind.i64.wrap (s.count + 1) = s.count + 1 := by have := hm.2.2.1; have := hO.1.2.2.2.1; exact wrap_of _ (by omega) (by omega)
            have KA := hid KA
            have HN0 := hid hn
            have hn9 : n ≤ 3 := by omega
            have EC := hid ec
            obtain ⟨cn, hcn⟩ : ∃ cn, s.count + 1 = cn := ⟨_, rfl⟩
            have EC2 : IntKind.i64.wrap (s.count + 1) = cn := by rw [← hcn]; exact EC.out
            have HCN0 := hid hcn
            have HM := hid hm
            clear hn ec hcn hm
            rw [hwt]
            go_wp2_with fail
            refine KA.out.mono ?_
            rintro e wz ⟨V, kk, Aq, rfl, hC2, hE, hcap, hG⟩
            have hbz := hG.below hC.lo.1 hC.lo.2.2 hws
            have hbw := hb.trans (hbz.mono hs1)
            obtain ⟨rs, hrs⟩ : ∃ rs, rs = [(⟨s.view % (2 * s.f + 1), s.number, s.count + 1, V, kk, x.body⟩ : Rq)] := ⟨_, rfl⟩
            rw [← hrs] at hE
            have HN := hid (show rs.length = n by rw [hrs, HN0.out]; rfl)
            have HR := hid (show ∀ r ∈ rs, r.n = 5 ∧ r.c = cn ∧ 0 ≤ r.q ∧ r.q ≤ 2 from fun r hr => by
              rw [hrs] at hr
              rw [List.mem_singleton.1 hr]
              have hf := hO.2.2.1
              exact ⟨hO.2.1, HCN0.out, by show 0 ≤ s.view % (2 * s.f + 1); rw [hf]; omega, by show s.view % (2 * s.f + 1) ≤ 2; rw [hf]; omega⟩)
            have HWT := hid (show (asks s x.body V kk).waits = true from rfl)
            have HCN := hid (show (asks s x.body V kk).count = cn from HCN0.out)
            have HO2 := hid (onc_ask hO HM.out V hcap)
            clear hrs KA EC hcap c1 c0 hz
            go_wp2_with fail
            go_loopw [17] (fun i W => ∃ j : Nat, j ≤ n ∧ i = .int .i64 j ∧ Below wz.heap.size wz W) (fun i _ => n - (RowKit.intOf i).toNat)
            case atStart => exact ⟨0, by omega, rfl, Below.refl _ _⟩
            case round =>
              obtain ⟨j, hj, rfl, hbj⟩ := hrel
              by_cases hjl : j < n
              · have i2 : (j : Int) < n := by omega
                have hjr : j < rs.length := by rw [HN.out]; exact hjl
                obtain ⟨ad2, ea, hx⟩ := rq_of (hE.below hbj) j hjr
                obtain ⟨q1, q2, q3, q4⟩ := HR.out rs[j] (List.getElem_mem hjr)
                cases ea
                generalize rs[j] = rj at hx q1 q2 q3 q4
                obtain ⟨rq, rn, rc, rA, rbc, rbody⟩ := rj
                dsimp only at q1 q2 q3 q4 hx
                rw [q1, q2] at hx
                clear q1 q2
                have x0 : wr.cell? (ad2.add (j * 15)) = some (.int .i64 1) := by have := hx 0 _ rfl; rwa [add_zero'] at this
                have x2 : wr.cell? ⟨(ad2.add (j * 15)).block, (ad2.add (j * 15)).off + 2, none⟩ = some (.int .i64 rq) := hx 2 _ rfl
                have x8 : wr.cell? ⟨(ad2.add (j * 15)).block, (ad2.add (j * 15)).off + 8, none⟩ = some (.int .i64 5) := hx 8 _ rfl
                have x9 : wr.cell? ⟨(ad2.add (j * 15)).block, (ad2.add (j * 15)).off + 9, none⟩ = some (.int .i64 cn) := hx 9 _ rfl
                have i3 : ¬ rq < 0 := by omega
                have i4 : ¬ (2 : Int) < rq := by omega
                have KW := waits_cl ((hC2).gro hbj)
                rw [HWT.out] at KW
                have KW := hid KW
                clear hx q3 q4
                go_wp2_with fail
                refine KW.out.mono ?_
                rintro e wy ⟨rfl, rfl⟩
                go_wp2_with fail
                go_roundw
                case rel => exact ⟨j + 1, by omega, by go_num, hbj⟩
                case measure => simp [RowKit.intOf]; omega
              · go_wp2_with fail
                go_roundw
                case rel => exact ⟨k + 1, asks s x.body V kk, tn, by omega, by go_num, by rw [HCN.out], rfl, HO2.out, (hC2).gro hbj, Nat.le_trans (Nat.le_trans hws hbz.size) hbj.size, below_step (hbw) hbj⟩
                case measure => simp [RowKit.intOf]; omega

          · have KA := hid (ask_no (B := x.A) (d := x.c) hC hO.1 hm)
            go_wp2_with fail
            refine KA.out.mono ?_
            rintro e wz ⟨rfl, hbz⟩
            obtain ⟨ww, hww⟩ : ∃ ww, s.waits = ww := ⟨_, rfl⟩
            rw [hww]
            have HWW := hid hww
            clear hww KA c1 c0 hz
            have hC2 := hC.gro hbz
            have hws2 := Nat.le_trans hws hbz.size
            have hb2z := below_step hb hbz
            cases ww
            · go_wp2_with fail
              go_loopw [17] (fun i W => i = .int .i64 0 ∧ W = wz) (fun _ _ => 0)
              case atStart => exact ⟨rfl, rfl⟩
              case round =>
                obtain ⟨rfl, rfl⟩ := hrel
                go_wp2_with fail
                go_roundw
                case rel => exact ⟨k + 1, s, tn, by omega, by go_num, rfl, rfl, hO, hC2, hws2, hb2z⟩
                case measure => simp [RowKit.intOf]; omega
            · go_wp2_with fail
              go_loopw [17] (fun i W => i = .int .i64 0 ∧ W = wz) (fun _ _ => 0)
              case atStart => exact ⟨rfl, rfl⟩
              case round =>
                obtain ⟨rfl, rfl⟩ := hrel
                go_wp2_with fail
                go_roundw
                case rel => exact ⟨k + 1, s, tn, by omega, by go_num, rfl, rfl, hO, hC2, hws2, hb2z⟩
                case measure => simp [RowKit.intOf]; omega
        by_cases e2 : z = 2
        · subst e2
          have HC := hid hc
          clear hc
          have c2 : wr.cell? ⟨(ad.add (k * 17)).block, (ad.add (k * 17)).off + 2, none⟩ = some (.int .i64 x.m.kind) := cell_on hb (HC.out 2 _ rfl)
          have c3 : wr.cell? ⟨(ad.add (k * 17)).block, (ad.add (k * 17)).off + 3, none⟩ = some (.int .i64 x.m.frm) := cell_on hb (HC.out 3 _ rfl)
          have c4 : wr.cell? ⟨(ad.add (k * 17)).block, (ad.add (k * 17)).off + 4, none⟩ = some (.int .i64 x.m.tto) := cell_on hb (HC.out 4 _ rfl)
          have c5 : wr.cell? ⟨(ad.add (k * 17)).block, (ad.add (k * 17)).off + 5, none⟩ = some (.int .i64 x.m.view) := cell_on hb (HC.out 5 _ rfl)
          have c6 : wr.cell? ⟨(ad.add (k * 17)).block, (ad.add (k * 17)).off + 6, none⟩ = some (.int .i64 x.m.num) := cell_on hb (HC.out 6 _ rfl)
          have c7 : wr.cell? ⟨(ad.add (k * 17)).block, (ad.add (k * 17)).off + 7, none⟩ = some (.int .i64 x.m.commit) := cell_on hb (HC.out 7 _ rfl)
          have c8 : wr.cell? ⟨(ad.add (k * 17)).block, (ad.add (k * 17)).off + 8, none⟩ = some (.int .i64 x.m.nonce) := cell_on hb (HC.out 8 _ rfl)
          have c9 : wr.cell? ⟨(ad.add (k * 17)).block, (ad.add (k * 17)).off + 9, none⟩ = some (.int .i64 x.m.normal) := cell_on hb (HC.out 9 _ rfl)
          have c10 : wr.cell? ⟨(ad.add (k * 17)).block, (ad.add (k * 17)).off + 10, none⟩ = some (.int .i64 x.m.client) := cell_on hb (HC.out 10 _ rfl)
          have c11 : wr.cell? ⟨(ad.add (k * 17)).block, (ad.add (k * 17)).off + 11, none⟩ = some (.int .i64 x.m.req) := cell_on hb (HC.out 11 _ rfl)
          have c12 : wr.cell? ⟨(ad.add (k * 17)).block, (ad.add (k * 17)).off + 12, none⟩ = some (.slice x.m.A x.m.body.length x.m.c) := cell_on hb (HC.out 12 _ rfl)
          have c13 : wr.cell? ⟨(ad.add (k * 17)).block, (ad.add (k * 17)).off + 13, none⟩ = some (.bool x.m.has) := cell_on hb (HC.out 13 _ rfl)
          have c14 : wr.cell? ⟨(ad.add (k * 17)).block, (ad.add (k * 17)).off + 14, none⟩ = some (.int .i64 x.m.start) := cell_on hb (HC.out 14 _ rfl)
          have c15 : wr.cell? ⟨(ad.add (k * 17)).block, (ad.add (k * 17)).off + 15, none⟩ = some (.slice x.m.eA x.m.en x.m.ec) := cell_on hb (HC.out 15 _ rfl)
          have c16 : wr.cell? ⟨(ad.add (k * 17)).block, (ad.add (k * 17)).off + 16, none⟩ = some (.slice x.m.kA x.m.kn x.m.kc) := cell_on hb (HC.out 16 _ rfl)
          by_cases hm : mine s x.m
          · have KH := hid (handle_mine hC x.m hm hO.1.2.2.2.2.2.2 RM.out (by omega))
            go_wp2_with fail
            refine KH.out.mono ?_
            rintro e wz ⟨V, kk, ⟨v3, rfl⟩, hC2, hG⟩
            obtain ⟨hO2, hcn⟩ := onc_handle hO hm V kk
            generalize takes s x.m V kk = s2 at hC2 hO2 hcn
            have hbz := hG.below hC.lo.1 hC.lo.2.2 hws
            have hb2z := hb.trans (hbz.mono hs1)
            have hws2 := Nat.le_trans hws hbz.size
            rw [← hcn]
            clear KH hcn c0 hz c2 c3 c4 c5 c6 c7 c8 c9 c10 c11 c12 c13 c14 c15 c16
            go_wp2_with fail
            go_loopw [17] (fun i W => i = .int .i64 0 ∧ W = wz) (fun _ _ => 0)
            case atStart => exact ⟨rfl, rfl⟩
            case round =>
              obtain ⟨rfl, rfl⟩ := hrel
              go_wp2_with fail
              go_roundw
              case rel => exact ⟨k + 1, s2, tn, by omega, by go_num, rfl, rfl, hO2, hC2, hws2, hb2z⟩
              case measure => simp [RowKit.intOf]; omega

          · have KH := hid (handle_not hC x.m hm)
            go_wp2_with fail
            refine KH.out.mono ?_
            rintro e wz ⟨⟨v3, rfl⟩, hC2, hG⟩
            have hbz := hG.below hC.lo.1 hC.lo.2.2 hws
            have hb2z := hb.trans (hbz.mono hs1)
            have hws2 := Nat.le_trans hws hbz.size
            clear KH c0 hz c2 c3 c4 c5 c6 c7 c8 c9 c10 c11 c12 c13 c14 c15 c16
            go_wp2_with fail
            go_loopw [17] (fun i W => i = .int .i64 0 ∧ W = wz) (fun _ _ => 0)
            case atStart => exact ⟨rfl, rfl⟩
            case round =>
              obtain ⟨rfl, rfl⟩ := hrel
              go_wp2_with fail
              go_roundw
              case rel => exact ⟨k + 1, s, tn, by omega, by go_num, rfl, rfl, hO, hC2, hws2, hb2z⟩
              case measure => simp [RowKit.intOf]; omega
        by_cases e3 : z = 3
        · subst e3
          cases hans : s.ans with
          | nil =>
            have KT := hid (takec_none hC hans)
            go_wp2_with fail
            refine KT.out.mono ?_
            rintro e wz ⟨rfl, hC2, hG⟩
            have hbz := hG.below hC.lo.1 hC.lo.2.2 hws
            have hb2z := hb.trans (hbz.mono hs1)
            have hws2 := Nat.le_trans hws hbz.size
            clear KT c0 hz
            go_wp2_with fail
            go_loopw [17] (fun i W => i = .int .i64 0 ∧ W = wz) (fun _ _ => 0)
            case atStart => exact ⟨rfl, rfl⟩
            case round =>
              obtain ⟨rfl, rfl⟩ := hrel
              go_wp2_with fail
              go_roundw
              case rel => exact ⟨k + 1, s, tn, by omega, by go_num, rfl, rfl, hO, hC2, hws2, hb2z⟩
              case measure => simp [RowKit.intOf]; omega
          | cons an l =>
            have KT := hid (takec_some hC hans)
            obtain ⟨hO2, ht1, ht2⟩ := onc_take hO hans
            have j1 : ¬ an.n ≤ tn := by omega
            have j2 : ¬ s.count < an.n := by omega
            go_wp2_with fail
            refine KT.out.mono ?_
            rintro e wz ⟨rfl, hC2, hG⟩
            have hbz := hG.below hC.lo.1 hC.lo.2.2 hws
            have hb2z := hb.trans (hbz.mono hs1)
            have hws2 := Nat.le_trans hws hbz.size
            clear KT c0 hz
            go_wp2_with fail
            go_loopw [17] (fun i W => i = .int .i64 0 ∧ W = wz) (fun _ _ => 0)
            case atStart => exact ⟨rfl, rfl⟩
            case round =>
              obtain ⟨rfl, rfl⟩ := hrel
              go_wp2_with fail
              go_roundw
              case rel => exact ⟨k + 1, { s with ans := l }, an.n, by omega, by go_num, rfl, rfl, hO2, hC2, hws2, hb2z⟩
              case measure => simp [RowKit.intOf]; omega
        have p0 : (z == 0) = false := by simpa using ez
        have p2 : (z == 2) = false := by simpa using e2
        have p3 : (z == 3) = false := by simpa using e3
        obtain ⟨ww, hww⟩ : ∃ ww, s.waits = ww := ⟨_, rfl⟩
        cases ww
        · have KT := hid (tick_no hC hww)
          go_wp2_with fail
          refine KT.out.mono ?_
          rintro e wz ⟨rfl, rfl⟩
          clear KT c0 hz
          go_wp2_with fail
          go_loopw [17] (fun i W => i = .int .i64 0 ∧ W = wz) (fun _ _ => 0)
          case atStart => exact ⟨rfl, rfl⟩
          case round =>
            obtain ⟨rfl, rfl⟩ := hrel
            go_wp2_with fail
            go_roundw
            case rel => exact ⟨k + 1, s, tn, by omega, by go_num, rfl, rfl, hO, hC, hws, hb⟩
            case measure => simp [RowKit.intOf]; omega

        · have KT := hid (tick_yes hC hO.1.1 hww hO.2.2.2.2.2.1)
          go_wp2_with fail
          refine KT.out.mono ?_
          rintro e wz ⟨vv, rfl, hOE, hC2, hG⟩
          have hbz := hG.below hC.lo.1 hC.lo.2.2 hws
          have hbw := hb.trans (hbz.mono hs1)
          have hws2 := Nat.le_trans hws hbz.size
          obtain ⟨cn, hcn⟩ : ∃ cn, s.count = cn := ⟨_, rfl⟩
          have hR : ∀ r ∈ atAll s, r.n = 5 ∧ r.c = cn ∧ 0 ≤ r.q ∧ r.q ≤ 2 := fun r hr => by
            obtain ⟨a1, a2, a3, a4⟩ := at_all hr hO.2.2.1
            exact ⟨a1.trans hO.2.1, a2.trans hcn, a3, a4⟩
          have hal := at_len (s := s) hO.2.2.1
          generalize atAll s = rs at hOE hR hal
          obtain ⟨At, ct, rfl, _, _, hE⟩ := hOE.rd
          obtain ⟨n, hn⟩ : ∃ n, rs.length = n := ⟨_, rfl⟩
          rw [hn, hcn]
          have hn9 : n ≤ 3 := by rw [← hn]; exact hal
          have HN := hid hn
          have HR := hid hR
          have HWT := hid (show (ticked s).waits = true from hww)
          have HCN := hid (show (ticked s).count = cn from hcn)
          have HO2 := hid (onc_tick hO)
          clear hal hR hn hcn hww KT c0 hz hOE
          go_wp2_with fail
          go_loopw [17] (fun i W => ∃ j : Nat, j ≤ n ∧ i = .int .i64 j ∧ Below wz.heap.size wz W) (fun i _ => n - (RowKit.intOf i).toNat)
          case atStart => exact ⟨0, by omega, rfl, Below.refl _ _⟩
          case round =>
            obtain ⟨j, hj, rfl, hbj⟩ := hrel
            by_cases hjl : j < n
            · have i2 : (j : Int) < n := by omega
              have hjr : j < rs.length := by rw [HN.out]; exact hjl
              obtain ⟨ad2, ea, hx⟩ := rq_of (hE.below hbj) j hjr
              obtain ⟨q1, q2, q3, q4⟩ := HR.out rs[j] (List.getElem_mem hjr)
              cases ea
              generalize rs[j] = rj at hx q1 q2 q3 q4
              obtain ⟨rq, rn, rc, rA, rbc, rbody⟩ := rj
              dsimp only at q1 q2 q3 q4 hx
              rw [q1, q2] at hx
              clear q1 q2
              have x0 : wr.cell? (ad2.add (j * 15)) = some (.int .i64 1) := by have := hx 0 _ rfl; rwa [add_zero'] at this
              have x2 : wr.cell? ⟨(ad2.add (j * 15)).block, (ad2.add (j * 15)).off + 2, none⟩ = some (.int .i64 rq) := hx 2 _ rfl
              have x8 : wr.cell? ⟨(ad2.add (j * 15)).block, (ad2.add (j * 15)).off + 8, none⟩ = some (.int .i64 5) := hx 8 _ rfl
              have x9 : wr.cell? ⟨(ad2.add (j * 15)).block, (ad2.add (j * 15)).off + 9, none⟩ = some (.int .i64 cn) := hx 9 _ rfl
              have i3 : ¬ rq < 0 := by omega
              have i4 : ¬ (2 : Int) < rq := by omega
              have KW := waits_cl ((hC2).gro hbj)
              rw [HWT.out] at KW
              have KW := hid KW
              clear hx q3 q4
              go_wp2_with fail
              refine KW.out.mono ?_
              rintro e wy ⟨rfl, rfl⟩
              go_wp2_with fail
              go_roundw
              case rel => exact ⟨j + 1, by omega, by go_num, hbj⟩
              case measure => simp [RowKit.intOf]; omega
            · go_wp2_with fail
              go_roundw
              case rel => exact ⟨k + 1, ticked s, tn, by omega, by go_num, by rw [HCN.out], rfl, HO2.out, (hC2).gro hbj, Nat.le_trans (hws2) hbj.size, below_step (hbw) hbj⟩
              case measure => simp [RowKit.intOf]; omega
      · go_wp2_with fail
        go_ret
        exact ⟨rfl, hb⟩
end Go.Proofs.Ytelmndpelgbboaa
