import Derived.Test.YtgkdnhbhmebmeaaDoorPostK
import Derived.Test.YtgkdnhbhmebmeaaDoorLogH
import Derived.Test.YtgkdnhbhmebmeaaDoorPlain1
/-! post: what is too much; messages alike; a message as a parameter -/
namespace Go.Proofs.YtgkdnhbhmebmeaaDoor
open Go.RowKit Go.Cov Go.ChangeShapes Go.WideShapes Go.Deep
theorem MaRd.max {w : World} {o : Ma} (h : MaRd w o) : o.b.length ≤ 9223372036854775807 ∧ o.es.length ≤ 9223372036854775807 ∧ o.chk.length ≤ 9223372036854775807 := by
  have h1 := h.bc; have h2 := h.ec; have h3 := h.kc
  unfold maxLen at h1 h2 h3
  omega
def greatB (o : Ma) : Bool := decide (1000 < o.es.length) || (decide (100000 < o.chk.length) || decide (100000 < o.b.length))
theorem greatB_no {o : Ma} (h : greatB o = false) : o.es.length ≤ 1000 ∧ o.chk.length ≤ 100000 ∧ o.b.length ≤ 100000 := by
  unfold greatB at h
  simp only [Bool.or_eq_false_iff, decide_eq_false_iff_not] at h
  omega
set_option maxRecDepth 100000 in
set_option maxHeartbeats 6400000 in
theorem great_any (o : Ma) (w : World) : Calls Tryd.prog 10 #[o.val] w fun e w' => e = .returned (.bool (greatB o)) ∧ Below w.heap.size w w' := by
  have b0 := below_alloc w (.cells o.cells.toArray 28)
  have R0 := Row.new w o.cells 28
  have C10 := (R0.2 10 _ rfl).1
  have C13 := (R0.2 13 _ rfl).1
  have C14 := (R0.2 14 _ rfl).1
  unfold Ma.val
  unfold Ma.cells at *
  clear R0
  by_cases c1 : 1000 < (o.es.length : Int)
  case pos =>
    have j1 : decide (1000 < (o.es.length : Int)) = true := decide_eq_true c1
    have hg := hid (show greatB o = true by unfold greatB; rw [decide_eq_true (by omega)]; rfl)
    go_enter Tryd.func10, Tryd.ntmps10
    go_wp2_with fail
    go_ret
    exact ⟨by rw [hg.out]; rfl, b0⟩
  have j1 : decide (1000 < (o.es.length : Int)) = false := decide_eq_false c1
  by_cases c2 : 100000 < (o.chk.length : Int)
  case pos =>
    have j2 : decide (100000 < (o.chk.length : Int)) = true := decide_eq_true c2
    have hg := hid (show greatB o = true by unfold greatB; rw [decide_eq_true (show 100000 < o.chk.length by omega), Bool.true_or, Bool.or_true])
    go_enter Tryd.func10, Tryd.ntmps10
    go_wp2_with fail
    go_ret
    exact ⟨by rw [hg.out]; rfl, b0⟩
  have j2 : decide (100000 < (o.chk.length : Int)) = false := decide_eq_false c2
  obtain ⟨x, j3⟩ : ∃ x, decide (100000 < (o.b.length : Int)) = x := ⟨_, rfl⟩
  have hg := hid (show greatB o = x by
    unfold greatB
    rw [decide_eq_false (show ¬ 1000 < o.es.length by omega), decide_eq_false (show ¬ 100000 < o.chk.length by omega), ← j3]
    simp only [Bool.false_or]
    exact decide_eq_decide.2 ⟨fun h => by omega, fun h => by omega⟩)
  go_enter Tryd.func10, Tryd.ntmps10
  go_wp2_with fail
  go_ret
  exact ⟨by rw [hg.out]; rfl, b0⟩

/-- messages alike -/
def sameM (a b : MD) : Bool := ((a.1.1 == b.1.1) && ((a.1.2.1 == b.1.2.1) && ((a.1.2.2.1 == b.1.2.2.1) && ((a.1.2.2.2.1 == b.1.2.2.2.1) && ((a.1.2.2.2.2.1 == b.1.2.2.2.2.1) && ((a.1.2.2.2.2.2.1 == b.1.2.2.2.2.2.1) && ((a.1.2.2.2.2.2.2.1 == b.1.2.2.2.2.2.2.1) && ((a.1.2.2.2.2.2.2.2.1 == b.1.2.2.2.2.2.2.2.1))))))))) && ((a.1.2.2.2.2.2.2.2.2.1 == b.1.2.2.2.2.2.2.2.2.1) && ((a.1.2.2.2.2.2.2.2.2.2 == b.1.2.2.2.2.2.2.2.2.2) && (decide (a.2.1 = b.2.1) && ((a.2.2.1 == b.2.2.1) && ((decide (a.2.2.2.1 = b.2.2.2.1) && decide (a.2.2.2.2.1 = b.2.2.2.2.1)) && decide (a.2.2.2.2.2 = b.2.2.2.2.2))))))
theorem sameM_iff {a b : MD} : sameM a b = true ↔ a = b := by
  obtain ⟨⟨n0, n1, n2, n3, n4, n5, n6, n7, n8, n9⟩, b0, has, st, es, chk⟩ := a
  obtain ⟨⟨m0, m1, m2, m3, m4, m5, m6, m7, m8, m9⟩, b0', has', st', es', chk'⟩ := b
  unfold sameM
  simp only [Bool.and_eq_true, beq_iff_eq, decide_eq_true_eq, Prod.mk.injEq]
  constructor
  · rintro ⟨⟨h0, h1, h2, h3, h4, h5, h6, h7⟩, h8, h9, hb, hh, ⟨hs, he⟩, hc⟩; exact ⟨⟨h0, h1, h2, h3, h4, h5, h6, h7, h8, h9⟩, hb, hh, hs, he, hc⟩
  · rintro ⟨⟨h0, h1, h2, h3, h4, h5, h6, h7, h8, h9⟩, hb, hh, hs, he, hc⟩; exact ⟨⟨h0, h1, h2, h3, h4, h5, h6, h7⟩, h8, h9, hb, hh, ⟨hs, he⟩, hc⟩

theorem ma_same (o p : Ma) : sameM o.data p.data = (((o.n.1 == p.n.1) && ((o.n.2.1 == p.n.2.1) && ((o.n.2.2.1 == p.n.2.2.1) && ((o.n.2.2.2.1 == p.n.2.2.2.1) && ((o.n.2.2.2.2.1 == p.n.2.2.2.2.1) && ((o.n.2.2.2.2.2.1 == p.n.2.2.2.2.2.1) && ((o.n.2.2.2.2.2.2.1 == p.n.2.2.2.2.2.2.1) && ((o.n.2.2.2.2.2.2.2.1 == p.n.2.2.2.2.2.2.2.1))))))))) && ((o.n.2.2.2.2.2.2.2.2.1 == p.n.2.2.2.2.2.2.2.2.1) && ((o.n.2.2.2.2.2.2.2.2.2 == p.n.2.2.2.2.2.2.2.2.2) && (decide (o.b = p.b) && ((o.has == p.has) && ((decide (o.st = p.st) && decide (o.es.map En.data = p.es.map En.data)) && decide (o.chk = p.chk))))))) := rfl
theorem cvm (w : World) {A : Option Addr} {l : List UInt8} (h : Rd w A (l.map byt)) (cap : Nat) : (convert 23 9 (.slice A l.length cap)).run Tryd.prog w = .ok (.string (str l)) w := conv_bs Tryd.underlying23 Tryd.underlying5 Tryd.underlying9 h cap
set_option maxRecDepth 100000 in
set_option maxHeartbeats 12800000 in
theorem msame_any (o p : Ma) {w : World} (ho : MaRd w o) (hp : MaRd w p) (hz : o.es.length ≤ 100000) :
    Calls Tryd.prog 15 #[o.val, p.val] w fun e w' => e = .returned (.bool (sameM o.data p.data)) ∧ Below w.heap.size w w' := by
  have HS := ma_same o p
  have b1 := below_alloc w (.cells o.cells.toArray 28)
  have R1 := Row.new w o.cells 28
  unfold Ma.val
  unfold Ma.cells at b1 R1
  obtain ⟨w1, hw1⟩ : ∃ w1, w1 = w.alloc (.cells o.cells.toArray 28) := ⟨_, rfl⟩
  unfold Ma.cells at hw1
  have n1 : w1.heap.size = w.heap.size + 1 := by rw [hw1]; simp
  have b1 : Below w.heap.size w w1 := by rw [hw1]; exact b1
  have R1 : Row w1 w.heap.size o.cells := by rw [hw1]; exact R1
  unfold Ma.cells at R1
  have b2 := below_alloc w1 (.cells p.cells.toArray 28)
  have R2 := Row.new w1 p.cells 28
  unfold Ma.cells at b2 R2
  have R1 := R1.below b2
  rw [n1] at R2
  replace HS := hid HS
  go_enter Tryd.func15, Tryd.ntmps15
  go_upto_region 1 with fail
  rw [← hw1]
  clear hw1
  generalize w1.alloc _ = w2 at b2 R1 R2 ⊢
  have b02 := below_step b1 b2
  clear b1 b2 n1
  replace ho := ho.below b02
  replace hp := hp.below b02
  have HS := HS.out
  have C0 := (R1.2 0 _ rfl).1
  have D0 := (R2.2 0 _ rfl).1
  have C1 := (R1.2 1 _ rfl).1
  have D1 := (R2.2 1 _ rfl).1
  have C2 := (R1.2 2 _ rfl).1
  have D2 := (R2.2 2 _ rfl).1
  have C3 := (R1.2 3 _ rfl).1
  have D3 := (R2.2 3 _ rfl).1
  have C4 := (R1.2 4 _ rfl).1
  have D4 := (R2.2 4 _ rfl).1
  have C5 := (R1.2 5 _ rfl).1
  have D5 := (R2.2 5 _ rfl).1
  have C6 := (R1.2 6 _ rfl).1
  have D6 := (R2.2 6 _ rfl).1
  have C7 := (R1.2 7 _ rfl).1
  have D7 := (R2.2 7 _ rfl).1
  have C8 := (R1.2 8 _ rfl).1
  have D8 := (R2.2 8 _ rfl).1
  have C9 := (R1.2 9 _ rfl).1
  have D9 := (R2.2 9 _ rfl).1
  obtain ⟨x0, hx0⟩ : ∃ x, (o.n.1 == p.n.1) = x := ⟨_, rfl⟩
  rw [hx0] at HS
  obtain ⟨x1, hx1⟩ : ∃ x, (o.n.2.1 == p.n.2.1) = x := ⟨_, rfl⟩
  rw [hx1] at HS
  obtain ⟨x2, hx2⟩ : ∃ x, (o.n.2.2.1 == p.n.2.2.1) = x := ⟨_, rfl⟩
  rw [hx2] at HS
  obtain ⟨x3, hx3⟩ : ∃ x, (o.n.2.2.2.1 == p.n.2.2.2.1) = x := ⟨_, rfl⟩
  rw [hx3] at HS
  obtain ⟨x4, hx4⟩ : ∃ x, (o.n.2.2.2.2.1 == p.n.2.2.2.2.1) = x := ⟨_, rfl⟩
  rw [hx4] at HS
  obtain ⟨x5, hx5⟩ : ∃ x, (o.n.2.2.2.2.2.1 == p.n.2.2.2.2.2.1) = x := ⟨_, rfl⟩
  rw [hx5] at HS
  obtain ⟨x6, hx6⟩ : ∃ x, (o.n.2.2.2.2.2.2.1 == p.n.2.2.2.2.2.2.1) = x := ⟨_, rfl⟩
  rw [hx6] at HS
  obtain ⟨x7, hx7⟩ : ∃ x, (o.n.2.2.2.2.2.2.2.1 == p.n.2.2.2.2.2.2.2.1) = x := ⟨_, rfl⟩
  rw [hx7] at HS
  obtain ⟨x8, hx8⟩ : ∃ x, (o.n.2.2.2.2.2.2.2.2.1 == p.n.2.2.2.2.2.2.2.2.1) = x := ⟨_, rfl⟩
  rw [hx8] at HS
  obtain ⟨x9, hx9⟩ : ∃ x, (o.n.2.2.2.2.2.2.2.2.2 == p.n.2.2.2.2.2.2.2.2.2) = x := ⟨_, rfl⟩
  rw [hx9] at HS
  replace HS := hid HS
  go_cut [5] (fun s5 wx => s5 = .bool (x0 && (x1 && (x2 && (x3 && (x4 && (x5 && (x6 && (x7)))))))) ∧ wx = w2)
  case first =>
    cases x0 with
    | false =>
      go_wp2_with fail
      go_meet
      exact ⟨rfl, rfl⟩
    | true =>
      cases x1 with
      | false =>
        go_wp2_with fail
        go_meet
        exact ⟨rfl, rfl⟩
      | true =>
        cases x2 with
        | false =>
          go_wp2_with fail
          go_meet
          exact ⟨rfl, rfl⟩
        | true =>
          cases x3 with
          | false =>
            go_wp2_with fail
            go_meet
            exact ⟨rfl, rfl⟩
          | true =>
            cases x4 with
            | false =>
              go_wp2_with fail
              go_meet
              exact ⟨rfl, rfl⟩
            | true =>
              cases x5 with
              | false =>
                go_wp2_with fail
                go_meet
                exact ⟨rfl, rfl⟩
              | true =>
                cases x6 with
                | false =>
                  go_wp2_with fail
                  go_meet
                  exact ⟨rfl, rfl⟩
                | true =>
                  cases x7 with
                  | false =>
                    go_wp2_with fail
                    go_meet
                    exact ⟨rfl, rfl⟩
                  | true =>
                    go_wp2_with fail
                    go_meet
                    exact ⟨rfl, rfl⟩
  case rest =>
  obtain ⟨rfl, rfl⟩ := hcut
  clear C0 D0 hx0
  clear C1 D1 hx1
  clear C2 D2 hx2
  clear C3 D3 hx3
  clear C4 D4 hx4
  clear C5 D5 hx5
  clear C6 D6 hx6
  clear C7 D7 hx7
  generalize (x0 && (x1 && (x2 && (x3 && (x4 && (x5 && (x6 && (x7)))))))) = y at HS ⊢
  have C10 := (R1.2 10 _ rfl).1
  have D10 := (R2.2 10 _ rfl).1
  have C11 := (R1.2 11 _ rfl).1
  have D11 := (R2.2 11 _ rfl).1
  have C12 := (R1.2 12 _ rfl).1
  have D12 := (R2.2 12 _ rfl).1
  have C13 := (R1.2 13 _ rfl).1
  have D13 := (R2.2 13 _ rfl).1
  have cb := cvm wc ho.b o.bc
  have db := cvm wc hp.b p.bc
  have cc := fun W (hW : Below wc.heap.size wc W) => cvm W (ho.k.below hW) o.kc
  have dc := fun W (hW : Below wc.heap.size wc W) => cvm W (hp.k.below hW) p.kc
  have sb := str_beq o.b p.b
  have sc := str_beq o.chk p.chk
  have KL := samel_any (s := o.st) (t := p.st) ho.lg hp.lg (by omega)
  have R1' := hid R1
  have R2' := hid R2
  replace HS := HS.out
  generalize decide (o.b = p.b) = xb at sb HS
  generalize decide (o.chk = p.chk) = xc at sc HS
  obtain ⟨xh, hxh⟩ : ∃ x, (o.has == p.has) = x := ⟨_, rfl⟩
  rw [hxh] at HS
  generalize (decide (o.st = p.st) && decide (List.map En.data o.es = List.map En.data p.es)) = xl at KL HS
  replace HS := hid HS
  replace KL := hid KL
  replace cc := hid cc
  replace dc := hid dc
  clear R1 R2
  generalize str o.b = tb1 at cb sb
  generalize str p.b = tb2 at db sb
  generalize str o.chk = tc1 at cc sc
  generalize str p.chk = tc2 at dc sc
  have fin : ∀ (z : Bool) (W : World), Below wc.heap.size wc W → (y && (x8 && (x9 && (xb && (xh && (xl && xc)))))) = z → (Ending.returned (.bool z) = .returned (.bool (sameM o.data p.data)) ∧ Below w.heap.size w W) := fun z W hW hz => ⟨by rw [HS.out, hz], below_step b02 hW⟩
  replace fin := hid fin
  cases y with
  | false =>
    go_wp2_with fail
    go_ret
    exact fin.out false _ (Below.refl _ _) (by first | rfl | simp)
  | true =>
    cases x8 with
    | false =>
      go_wp2_with fail
      go_ret
      exact fin.out false _ (Below.refl _ _) (by first | rfl | simp)
    | true =>
      cases x9 with
      | false =>
        go_wp2_with fail
        go_ret
        exact fin.out false _ (Below.refl _ _) (by first | rfl | simp)
      | true =>
        cases xb with
        | false =>
          go_wp2_with fail
          go_ret
          exact fin.out false _ (Below.refl _ _) (by first | rfl | simp)
        | true =>
          cases xh with
          | false =>
            go_wp2_with fail
            go_ret
            exact fin.out false _ (Below.refl _ _) (by first | rfl | simp)
          | true =>
            go_wp2_with fail
            refine KL.out.mono ?_
            rintro e w3 ⟨rfl, hb3⟩
            have E14 := ((R1'.out.below hb3).2 14 _ rfl).1
            have F14 := ((R2'.out.below hb3).2 14 _ rfl).1
            have cc3 := cc.out w3 hb3
            have dc3 := dc.out w3 hb3
            clear cb db C8 D8 C9 D9 C10 D10 C11 D11 C12 D12 C13 D13
            cases xl with
            | false =>
              go_wp2_with fail
              go_ret
              exact fin.out false _ hb3 rfl
            | true =>
              go_wp2_with fail
              go_ret
              exact fin.out xc _ hb3 (by cases xc <;> rfl)

section
variable {H : Type} {enc : TypeId × Value → H} {W : World} {base : Nat} {spare : Nat → Bool} {held : Bool}
theorem inv_enm : ∀ n cs x, DataW.trod enc Tryd.prog W base spare held n 43 cs = some x → ∃ a : En, cs = enEl.cells a ∧ ((∀ p ∈ enEl.cons a, Sl W p.1 p.2) ∧ (Lit.int .i64 a.c).wf = true ∧ (Lit.int .i64 a.r).wf = true) :=
  inv_entry Tryd.underlying43 (by kernel_rfl) ⟨rfl, rfl, rfl⟩ Tryd.underlying2 Tryd.underlying2 Tryd.underlying23 ⟨by kernel_rfl, by kernel_rfl, by kernel_rfl⟩ Tryd.underlying5 (by kernel_rfl)
set_option maxRecDepth 100000 in
set_option maxHeartbeats 1600000 in
/-- a message as a parameter -/
theorem open_msg {r : Reach} {b0 : Nat} {v : Value} {d : DataW H} {p : List MemPlace} (hval : Value.okWide Tryd.prog W r b0 28 v) (h : DataW.Trod enc Tryd.prog W base spare held 28 v d p) :
    ∃ o : Ma, v = o.val ∧ MaRd W o ∧ intM o.data := by
  obtain ⟨cs, rfl, hcs⟩ := okWide_struct Tryd.underlying28 hval
  obtain ⟨fuel, hf⟩ := h
  obtain ⟨m, hlen, hf⟩ := inv_struct Tryd.underlying28 hf
  have hct : Tryd.prog.cellsOf 28 = 15 := by kernel_rfl
  rw [hct, show (Value.agg cs).cells.toList = cs.toList from rfl] at hlen

  obtain ⟨y0, k0⟩ := hf 0 _ rfl
  obtain ⟨y1, k1⟩ := hf 1 _ rfl
  obtain ⟨y2, k2⟩ := hf 2 _ rfl
  obtain ⟨y3, k3⟩ := hf 3 _ rfl
  obtain ⟨y4, k4⟩ := hf 4 _ rfl
  obtain ⟨y5, k5⟩ := hf 5 _ rfl
  obtain ⟨y6, k6⟩ := hf 6 _ rfl
  obtain ⟨y7, k7⟩ := hf 7 _ rfl
  obtain ⟨y8, k8⟩ := hf 8 _ rfl
  obtain ⟨y9, k9⟩ := hf 9 _ rfl
  obtain ⟨y10, k10⟩ := hf 10 _ rfl
  obtain ⟨y11, k11⟩ := hf 11 _ rfl
  obtain ⟨y12, k12⟩ := hf 12 _ rfl
  obtain ⟨y13, k13⟩ := hf 13 _ rfl
  replace k0 : DataW.trod enc Tryd.prog W base spare held m 22 ((cs.toList.drop 0).take (Tryd.prog.cellsOf 22)) = some y0 := k0
  replace k1 : DataW.trod enc Tryd.prog W base spare held m 3 ((cs.toList.drop 1).take (Tryd.prog.cellsOf 3)) = some y1 := k1
  replace k2 : DataW.trod enc Tryd.prog W base spare held m 3 ((cs.toList.drop 2).take (Tryd.prog.cellsOf 3)) = some y2 := k2
  replace k3 : DataW.trod enc Tryd.prog W base spare held m 2 ((cs.toList.drop 3).take (Tryd.prog.cellsOf 2)) = some y3 := k3
  replace k4 : DataW.trod enc Tryd.prog W base spare held m 2 ((cs.toList.drop 4).take (Tryd.prog.cellsOf 2)) = some y4 := k4
  replace k5 : DataW.trod enc Tryd.prog W base spare held m 2 ((cs.toList.drop 5).take (Tryd.prog.cellsOf 2)) = some y5 := k5
  replace k6 : DataW.trod enc Tryd.prog W base spare held m 2 ((cs.toList.drop 6).take (Tryd.prog.cellsOf 2)) = some y6 := k6
  replace k7 : DataW.trod enc Tryd.prog W base spare held m 2 ((cs.toList.drop 7).take (Tryd.prog.cellsOf 2)) = some y7 := k7
  replace k8 : DataW.trod enc Tryd.prog W base spare held m 2 ((cs.toList.drop 8).take (Tryd.prog.cellsOf 2)) = some y8 := k8
  replace k9 : DataW.trod enc Tryd.prog W base spare held m 2 ((cs.toList.drop 9).take (Tryd.prog.cellsOf 2)) = some y9 := k9
  replace k10 : DataW.trod enc Tryd.prog W base spare held m 23 ((cs.toList.drop 10).take (Tryd.prog.cellsOf 23)) = some y10 := k10
  replace k11 : DataW.trod enc Tryd.prog W base spare held m 4 ((cs.toList.drop 11).take (Tryd.prog.cellsOf 4)) = some y11 := k11
  replace k12 : DataW.trod enc Tryd.prog W base spare held m 26 ((cs.toList.drop 12).take (Tryd.prog.cellsOf 26)) = some y12 := k12
  replace k13 : DataW.trod enc Tryd.prog W base spare held m 23 ((cs.toList.drop 14).take (Tryd.prog.cellsOf 23)) = some y13 := k13
  obtain ⟨u0, u1, u2, u3, u4, u5, u6, u7, u8, u9, u10, u11, u12, u13, u14, hu⟩ : ∃ u0 u1 u2 u3 u4 u5 u6 u7 u8 u9 u10 u11 u12 u13 u14, cs.toList = [u0, u1, u2, u3, u4, u5, u6, u7, u8, u9, u10, u11, u12, u13, u14] := by
    match h : cs.toList, hlen with
    | [u0, u1, u2, u3, u4, u5, u6, u7, u8, u9, u10, u11, u12, u13, u14], _ => exact ⟨_, _, _, _, _, _, _, _, _, _, _, _, _, _, _, rfl⟩
  have cK : Tryd.prog.cellsOf 22 = 1 := by kernel_rfl
  have ci : Tryd.prog.cellsOf 3 = 1 := by kernel_rfl
  have cl : Tryd.prog.cellsOf 2 = 1 := by kernel_rfl
  have cO : Tryd.prog.cellsOf 4 = 1 := by kernel_rfl
  have cB : Tryd.prog.cellsOf 23 = 1 := by kernel_rfl
  have cG : Tryd.prog.cellsOf 26 = 2 := by kernel_rfl
  have cE : Tryd.prog.cellsOf 24 = 1 := by kernel_rfl
  rw [hu] at k0 k1 k2 k3 k4 k5 k6 k7 k8 k9 k10 k11 k12 k13
  rw [cK] at k0
  rw [ci] at k1 k2
  rw [cl] at k3 k4 k5 k6 k7 k8 k9
  rw [cB] at k10 k13
  rw [cO] at k11
  rw [cG] at k12
  obtain ⟨m2, _, hf2⟩ := inv_struct Tryd.underlying26 k12
  obtain ⟨z0, l0⟩ := hf2 0 _ rfl
  obtain ⟨z1, l1⟩ := hf2 1 _ rfl
  replace l0 : DataW.trod enc Tryd.prog W base spare held m2 2 (([u12, u13].drop 0).take (Tryd.prog.cellsOf 2)) = some z0 := l0
  replace l1 : DataW.trod enc Tryd.prog W base spare held m2 24 (([u12, u13].drop 1).take (Tryd.prog.cellsOf 24)) = some z1 := l1
  rw [cl] at l0
  rw [cE] at l1
  obtain ⟨a0, e0, s0⟩ := inv_int Tryd.underlying22 _ _ _ k0
  obtain ⟨a1, e1, s1⟩ := inv_int Tryd.underlying3 _ _ _ k1
  obtain ⟨a2, e2, s2⟩ := inv_int Tryd.underlying3 _ _ _ k2
  obtain ⟨a3, e3, s3⟩ := inv_int Tryd.underlying2 _ _ _ k3
  obtain ⟨a4, e4, s4⟩ := inv_int Tryd.underlying2 _ _ _ k4
  obtain ⟨a5, e5, s5⟩ := inv_int Tryd.underlying2 _ _ _ k5
  obtain ⟨a6, e6, s6⟩ := inv_int Tryd.underlying2 _ _ _ k6
  obtain ⟨a7, e7, s7⟩ := inv_int Tryd.underlying2 _ _ _ k7
  obtain ⟨a8, e8, s8⟩ := inv_int Tryd.underlying2 _ _ _ k8
  obtain ⟨a9, e9, s9⟩ := inv_int Tryd.underlying2 _ _ _ k9
  obtain ⟨a10, e10, s10⟩ := inv_slice Tryd.underlying23 Tryd.underlying5 (by kernel_rfl) _ _ _ k10
  obtain ⟨a11, e11, _⟩ := inv_bool Tryd.underlying4 _ _ _ k11
  obtain ⟨a12, e12, s12⟩ := inv_int Tryd.underlying2 _ _ _ l0
  obtain ⟨A13, c13, xs, e13, h3, h4, _, h5, h6, _⟩ := open_sl (sz := 3) enEl.cells _ Tryd.underlying24 (by kernel_rfl) enEl.len inv_enm l1
  obtain ⟨a14, e14, s14⟩ := inv_slice Tryd.underlying23 Tryd.underlying5 (by kernel_rfl) _ _ _ k13
  obtain ⟨A10, c10, q10, hc10, hm10, r10⟩ := s10
  obtain ⟨A14, c14, q14, hc14, hm14, r14⟩ := s14
  have e0 : u0 = .int .i64 a0 := by simpa [one] using e0
  have e1 : u1 = .int .i64 a1 := by simpa [one] using e1
  have e2 : u2 = .int .i64 a2 := by simpa [one] using e2
  have e3 : u3 = .int .i64 a3 := by simpa [one] using e3
  have e4 : u4 = .int .i64 a4 := by simpa [one] using e4
  have e5 : u5 = .int .i64 a5 := by simpa [one] using e5
  have e6 : u6 = .int .i64 a6 := by simpa [one] using e6
  have e7 : u7 = .int .i64 a7 := by simpa [one] using e7
  have e8 : u8 = .int .i64 a8 := by simpa [one] using e8
  have e9 : u9 = .int .i64 a9 := by simpa [one] using e9
  have e10 : u10 = .slice A10 a10.2.length c10 := by rw [← q10]; simpa [fst1] using e10
  have e11 : u11 = .bool a11 := by simpa [one] using e11
  have e12 : u12 = .int .i64 a12 := by simpa [one] using e12
  have e13 : u13 = .slice A13 xs.length c13 := by simpa using e13
  have e14 : u14 = .slice A14 a14.2.length c14 := by rw [← q14]; simpa [fst1] using e14
  refine ⟨⟨(a0, a1, a2, a3, a4, a5, a6, a7, a8, a9), A10, c10, a10.2, a11, a12, A13, c13, xs, A14, c14, a14.2⟩, ?_, ⟨r10, ⟨h5, fun a ha => (h6 a ha).1⟩, r14, ⟨hc10, hm10⟩, ⟨h3, h4⟩, ⟨hc14, hm14⟩⟩, wf64 s6, wf64 s8, wf64 s9, ?_⟩
  · have : cs = #[u0, u1, u2, u3, u4, u5, u6, u7, u8, u9, u10, u11, u12, u13, u14] := by rw [← Array.toArray_toList (xs := cs), hu]
    rw [this, e0, e1, e2, e3, e4, e5, e6, e7, e8, e9, e10, e11, e12, e13, e14]; rfl
  · intro x hx
    obtain ⟨a, ha, rfl⟩ := List.mem_map.1 hx
    exact ⟨wf64 (h6 a ha).2.1, wf64 (h6 a ha).2.2⟩
end
end Go.Proofs.YtgkdnhbhmebmeaaDoor
