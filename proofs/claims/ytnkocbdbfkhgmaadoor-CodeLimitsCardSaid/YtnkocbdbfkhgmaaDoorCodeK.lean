import Derived.Test.YtnkocbdbfkhgmaaDoorCodeJ
/-! code: the module of bytes -/
namespace Go.Proofs.YtnkocbdbfkhgmaaDoor
open Go.RowKit Go.Cov
/-- texts that were read -/
def TxOwn (w : World) (base : Nat) (v : Value) (ts : List SlR) : Prop := w.ownsRow base 26 1 v ts.length (ts.map SlR.val) ∧ ∀ t ∈ ts, Sl w t.val t.l ∧ ∀ k, t.val.ownBlock = some k → base ≤ k
theorem TxOwn.nil (w : World) (base : Nat) : TxOwn w base (.slice none 0 0) [] := ⟨World.ownsRow_nil _ _ _ _, fun t ht => by cases ht⟩
theorem TxOwn.gro {w w' : World} {base b : Nat} {v : Value} {ts : List SlR} (h : TxOwn w base v ts) (hG : Gro b b w w') (hb : b < base) : TxOwn w' base v ts :=
  ⟨hG.own h.1 hb, fun t ht => ⟨hG.sl (h.2 t ht).1 (fun k hk e => by have := (h.2 t ht).2 k hk; omega), (h.2 t ht).2⟩⟩
theorem TxOwn.below {w w' : World} {base : Nat} {v : Value} {ts : List SlR} (h : TxOwn w base v ts) (hb : Below w.heap.size w w') : TxOwn w' base v ts := ⟨own_below h.1 hb, fun t ht => ⟨(h.2 t ht).1.below hb, (h.2 t ht).2⟩⟩
theorem txs_of {w : World} {base : Nat} : ∀ (ls : List (List UInt8)) (vs : List Value), vs.length = ls.length → (∀ (i : Nat) (l : List UInt8), ls[i]? = some l → ∃ A c, vs[i]? = some (.slice A l.length c) ∧ l.length ≤ c ∧ c ≤ maxLen ∧ Rd w A (l.map byt) ∧ ∀ ad, A = some ad → base ≤ ad.block) → ∃ ts : List SlR, ts.map SlR.val = vs ∧ ts.map SlR.l = ls ∧ ∀ t ∈ ts, Sl w t.val t.l ∧ ∀ k, t.val.ownBlock = some k → base ≤ k
  | [], [], _, _ => ⟨[], rfl, rfl, fun t ht => by cases ht⟩
  | l :: ls, v :: vs, hl, h => by
    obtain ⟨ts, h1, h2, h3⟩ := txs_of ls vs (by simpa using hl) (fun i l hi => h (i + 1) l hi)
    obtain ⟨A, c, g1, g2, g3, g4, g5⟩ := h 0 l rfl
    have g1 : v = .slice A l.length c := Option.some.inj g1
    refine ⟨⟨A, c, l⟩ :: ts, by rw [List.map_cons, h1, g1]; rfl, by rw [List.map_cons, h2], fun t ht => ?_⟩
    rcases List.mem_cons.1 ht with rfl | ht
    · refine ⟨⟨A, c, rfl, g2, g3, g4⟩, fun k hk => ?_⟩
      cases A with
      | none => cases hk
      | some ad => injection hk with hk; rw [← hk]; exact g5 ad rfl
    · exact h3 t ht
theorem TxOwn.of {w : World} {base : Nat} {v : Value} {ls : List (List UInt8)} (h : OwnRows w base 26 v ls) : ∃ ts : List SlR, ts.map SlR.l = ls ∧ TxOwn w base v ts := by
  obtain ⟨vs, h1, h2⟩ := h
  obtain ⟨ts, g1, g2, g3⟩ := txs_of (base := base) ls vs (by have := h1.1; omega) (fun i l hi => by
    obtain ⟨A, c, k1, k2, k3, k4, k5⟩ := h2 i l hi
    exact ⟨A, c, k1, k2, k3, k4, fun ad ha => (k5 ad ha).1⟩)
  refine ⟨ts, g2, ?_, g3⟩
  rw [g1, show ts.length = ls.length by rw [← g2, List.length_map]]
  exact h1
theorem flat_val (ts : List SlR) : ts.flatMap slEl.cells = ts.map SlR.val := by
  induction ts with
  | nil => rfl
  | cons t ts ih => rw [List.flatMap_cons, ih]; rfl
theorem TxOwn.els {w : World} {base : Nat} {A : Option Addr} {c : Nat} {ts : List SlR} (h : TxOwn w base (.slice A ts.length c) ts) : Els slEl w A ts :=
  ⟨by rw [flat_val]; exact own_rd h.1, fun t ht p hp => by
    have hp : p ∈ [(t.val, t.l)] := hp
    rw [List.mem_singleton.1 hp]; exact (h.2 t ht).1⟩
/-- a module's functions that were read -/
theorem mo_read {w : World} {base : Nat} {Ax At : Option Addr} {cx ct : Nat} {xs : List Co} {ts : List SlR} (h : OwnEls coEl w base 46 (.slice Ax xs.length cx) xs) (hp : ∀ x ∈ xs, CoOwn w base x) (ht : TxOwn w base (.slice At ts.length ct) ts) : MoRd w ⟨Ax, cx, xs, At, ct, ts⟩ := by
  obtain ⟨A, c, e, h1, h2, h3⟩ := h.rd
  injection e with e1 e2 e3
  obtain ⟨B, d, e', g1, g2, g3⟩ := own_shape ht.1
  injection e' with e4 e5 e6
  exact ⟨by rw [e1]; exact h3, fun x hx => (hp x hx).rd, ht.els, by rw [e3]; exact ⟨h1, h2⟩, by rw [e6]; exact ⟨g1, g2⟩⟩
/-- the error at the end -/
def endM (n : Nat) (s : Int × Int) (is : Bool) : Int := if s.2 = 0 then (if s.1 = n ∧ is = true then 0 else 111) else s.2
theorem readMo_is {l : List UInt8} {D : MoD} {s : Int × Int} (h : getMo l (0, 0) = (D, s)) : readMo l = (if endM l.length s (rightMo D) = 0 then D else zeroMo, endM l.length s (rightMo D)) := by
  unfold readMo whole endM
  rw [h]
  dsimp only
  by_cases h1 : s.2 = 0
  · by_cases h2 : s.1 = l.length ∧ rightMo D = true
    · rw [if_pos h1, if_pos h2, if_pos h1, if_pos h2, if_pos rfl]
    · rw [if_pos h1, if_neg h2, if_pos h1, if_neg h2, if_neg (by decide)]
  · rw [if_neg h1, if_neg h1, if_neg h1]
theorem getMo_is {l : List UInt8} {cs : List CD} {ts : List (List UInt8)} {s1 s2 : Int × Int} (h1 : cnt 64 111 getC l (0, 0) = (cs, s1)) (h2 : nx rowR [] l s1 = (ts, s2)) : getMo l (0, 0) = ((cs, ts), s2) := by
  unfold getMo sq
  rw [h1]; dsimp only
  rw [h2]
set_option maxRecDepth 100000 in
set_option maxHeartbeats 12800000 in
theorem get_any {A : Option Addr} {c : Nat} {l : List UInt8} {w : World} (h : Rd w A (l.map byt)) (hc : l.length ≤ c) (hl : l.length ≤ 140737488351236) :
    Calls Tryd.prog 14 #[.slice A l.length c] w fun e w' => ∃ m : Mo, e = .returned (.tuple #[.agg #[.slice m.cA m.cs.length m.cc, .slice m.tA m.ts.length m.tc], .int .i64 (readMo l).2]) ∧ m.data = (readMo l).1 ∧ MoRd w' m ∧ Below w.heap.size w w' := by
  have hAl := rd_lt h
  have b1 := below_alloc w (.cells #[.slice none 0 0, .slice none 0 0] 25)
  have R1 := Row.new w [.slice none 0 0, .slice none 0 0] 25
  obtain ⟨w1, hw1⟩ : ∃ w1, w.alloc (.cells #[.slice none 0 0, .slice none 0 0] 25) = w1 := ⟨_, rfl⟩
  have n1 : w1.heap.size = w.heap.size + 1 := by rw [← hw1]; simp
  change Row (w.alloc (.cells #[.slice none 0 0, .slice none 0 0] 25)) _ _ at R1
  rw [hw1] at b1 R1
  have b2 := below_alloc w1 (.cells #[.slice none 0 0, .slice none 0 0] 25)
  have R2 := Row.new w1 [.slice none 0 0, .slice none 0 0] 25
  obtain ⟨w2, hw2⟩ : ∃ w2, w1.alloc (.cells #[.slice none 0 0, .slice none 0 0] 25) = w2 := ⟨_, rfl⟩
  have n2 : w2.heap.size = w.heap.size + 2 := by rw [← hw2]; simp [n1]
  change Row (w1.alloc (.cells #[.slice none 0 0, .slice none 0 0] 25)) _ _ at R2
  rw [hw2, n1] at R2
  rw [hw2] at b2
  have b3 := below_alloc w2 (.cells #[.slice A l.length c, .int .i64 0, .int .i64 0] 57)
  have R3 := Row.new w2 [.slice A l.length c, .int .i64 0, .int .i64 0] 57
  obtain ⟨w3, hw3⟩ : ∃ w3, w2.alloc (.cells #[.slice A l.length c, .int .i64 0, .int .i64 0] 57) = w3 := ⟨_, rfl⟩
  have n3 : w3.heap.size = w.heap.size + 3 := by rw [← hw3]; simp [n2]
  change Row (w2.alloc (.cells #[.slice A l.length c, .int .i64 0, .int .i64 0] 57)) _ _ at R3
  rw [hw3, n2] at R3
  rw [hw3] at b3
  have b13 := below_step (below_step b1 b2) b3
  have hR : Rg w w3 w.heap.size (w.heap.size + 1) (w.heap.size + 2) [.slice none 0 0, .slice none 0 0] [.slice none 0 0, .slice none 0 0] A c l (0, 0) (fun _ => True) :=
    ⟨(R1.below b2).below b3, R2.below b3, ⟨R3, h.below b13, fun hn ad ha => by have := hAl hn ad ha; omega, hc, hl⟩, trivial, fun _ _ _ _ _ _ _ => trivial, by omega, hAl, b13⟩
  clear R1 R2 R3 b1 b2 b3 b13
  have K := list_co hR.rr
  obtain ⟨cds, s1, h1⟩ : ∃ x s, cnt 64 111 getC l (0, 0) = (x, s) := ⟨_, _, rfl⟩
  rw [h1] at K
  replace K := hid K
  replace hR := hid hR
  go_enter Tryd.func14, Tryd.ntmps14
  go_wp2_with fail
  refine K.out.mono ?_
  rintro e w4 ⟨vx, xs, rfl, hxs, hxl, hE, hP, h4, G4⟩
  clear K hw1 hw2 hw3 n1 n2
  replace hxs : xs.map Co.data = cds := hxs
  rw [n3] at hE hP
  replace hR := hR.out.next h4 G4
  obtain ⟨Ax, cx, rfl, hcx, hmx, _⟩ := own_shape hE.1
  replace hR := hR.to (Y := (fun W => OwnEls coEl W (w.heap.size + 3) 46 (.slice Ax xs.length cx) xs ∧ ∀ x ∈ xs, CoOwn W (w.heap.size + 3) x)) ⟨hE, fun x hx => (hP x hx).1⟩ (fun k W1 W2 hk hG _ hx => ⟨keep_elsc (m := w.heap.size + 3) (fun _ => rfl) (Nat.le_refl _) (by omega) hG hx.1, fun x hxx => (hx.2 x hxx).gro hG (by omega)⟩)
  have CC := hR.c2 0 _ rfl
  have F := hR.f2 0 _ rfl
  replace hR := hid (hR.set 0 (by simp) (.slice Ax xs.length cx))
  clear hE hP h4 G4 n3
  go_upto_region 4 with fail
  clear CC F
  replace hR := hR.out
  generalize World.setCell _ _ _ = w5 at hR ⊢
  simp only [List.set_cons_zero] at hR
  -- the texts
  obtain ⟨tds, s2, h2⟩ : ∃ x s, nx rowR [] l s1 = (x, s) := ⟨_, _, rfl⟩
  obtain ⟨p1, e1⟩ := s1
  have Ce := (hR.rr.row.2 2 _ rfl).1
  go_upto_if 18 with fail
  go_cut [5] (fun s5 wx => s5 = .pointer (some ⟨w.heap.size + 2, 0, none⟩) ∧ ∃ (At : Option Addr) (ct : Nat) (ts : List SlR), Hid (ts.map SlR.l = tds) ∧ Rg w wx w.heap.size (w.heap.size + 1) (w.heap.size + 2) [.slice none 0 0, .slice none 0 0] [.slice Ax xs.length cx, .slice At ts.length ct] A c l s2 (fun W => (OwnEls coEl W (w.heap.size + 3) 46 (.slice Ax xs.length cx) xs ∧ ∀ x ∈ xs, CoOwn W (w.heap.size + 3) x) ∧ TxOwn W (w.heap.size + 3) (.slice At ts.length ct) ts))
  case first =>
    by_cases hz : e1 = 0
    case neg =>
      have hne : (e1 == 0) = false := by simpa using hz
      rw [nx_no _ _ _ _ hz] at h2
      injection h2 with h2 h2'
      go_wp2_with fail
      go_meet
      refine ⟨rfl, none, 0, [], hid h2, ?_⟩
      rw [← h2']
      exact hR.more (Y := fun W => TxOwn W (w.heap.size + 3) (.slice none 0 0) []) (TxOwn.nil _ _) (fun k W1 W2 hk hG _ hx => hx.gro hG (by omega))
    case pos =>
      subst hz
      have hne : ((0 : Int) == 0) = true := rfl
      rw [nx_ok] at h2
      have K := row_any hR.rr.rd hR.rr.cap hR.rr.len p1
      rw [h2] at K
      have C1 := (hR.rr.row.2 1 _ rfl).1
      replace hR := hid hR
      replace K := hid K
      replace h2 := hid h2
      go_wp2_with fail
      refine K.out.mono ?_
      rintro e w6 ⟨vt, rfl, ownT, hb6⟩
      clear K C1 Ce
      replace hR := hR.out
      have z6 := hR.rr.row.1
      replace hR := hR.on hb6
      obtain ⟨ts, hts, hT⟩ := TxOwn.of (ownT.mono (show w.heap.size + 3 ≤ w5.heap.size by omega))
      obtain ⟨At, ct, rfl, _⟩ := own_shape hT.1
      replace hR := hR.more (Y := fun W => TxOwn W (w.heap.size + 3) (.slice At ts.length ct) ts) hT (fun k W1 W2 hk hG _ hx => hx.gro hG (by omega))
      have C1 := hR.c2 1 _ rfl
      have F1 := hR.f2 1 _ rfl
      have D1 := (hR.rr.row.2 1 _ rfl).1
      have E1 := (hR.rr.row.2 1 _ rfl).2
      have D2 := (hR.rr.row.2 2 _ rfl).1
      have E2 := (hR.rr.row.2 2 _ rfl).2
      have hQ := hR.set 1 (by simp) (.slice At ts.length ct)
      have G := (Gro.set (w.heap.size + 2) (w.heap.size + 2) 1 (w6.setCell ⟨w.heap.size + 1, 1, none⟩ (.slice At ts.length ct)) (.int .i64 s2.1)).trans (Gro.set (w.heap.size + 2) (w.heap.size + 2) 2 _ (.int .i64 s2.2))
      have hS := hQ.next ((hQ.rr.set1 s2.1).set2 s2.2) G
      replace hS := hid hS
      clear G hQ hR ownT hT
      go_wp2_with fail
      go_meet
      refine ⟨rfl, At, ct, ts, hid hts, ?_⟩
      have := hS.out
      simp only [List.set_cons_zero, List.set_cons_succ] at this
      exact this
  case rest =>
  clear hR Ce
  obtain ⟨rfl, At, ct, ts, hts, hR⟩ := hcut
  obtain ⟨p2, e2⟩ := s2
  have hD : (⟨Ax, cx, xs, At, ct, ts⟩ : Mo).data = (cds, tds) := by
    unfold Mo.data; dsimp only; rw [hxs, hts.out]
  have hM := mo_read hR.x.1.1 hR.x.1.2 hR.x.2
  have KR := right_any hM
  rw [hD] at KR
  have hrd := readMo_is (getMo_is h1 h2)
  generalize rightMo (cds, tds) = R at KR hrd
  dsimp only at KR
  replace KR := hid KR
  replace hrd := hid hrd
  replace h1 := hid h1
  replace h2 := hid h2
  replace hxs := hid hxs
  replace hD := hid hD
  clear hM
  go_upto_region 6 with fail
  go_cut [54] (fun s54 wx => s54 = .bool (decide (e2 = 0 ∧ ¬ (p2 = l.length ∧ R = true))) ∧ Rg w wx w.heap.size (w.heap.size + 1) (w.heap.size + 2) [.slice none 0 0, .slice none 0 0] [.slice Ax xs.length cx, .slice At ts.length ct] A c l (p2, e2) (fun W => (OwnEls coEl W (w.heap.size + 3) 46 (.slice Ax xs.length cx) xs ∧ ∀ x ∈ xs, CoOwn W (w.heap.size + 3) x) ∧ TxOwn W (w.heap.size + 3) (.slice At ts.length ct) ts))
  case first =>
    have C2 := (hR.rr.row.2 2 _ rfl).1
    by_cases hz : e2 = 0
    case neg =>
      have hne : (e2 == 0) = false := by simpa using hz
      replace hR := hid hR
      go_wp2_with fail
      go_meet
      exact ⟨congrArg Value.bool (decide_eq_false (fun hh => hz hh.1)).symm, hR.out⟩
    case pos =>
      subst hz
      have C1 := (hR.rr.row.2 1 _ rfl).1
      by_cases hp : p2 = (l.length : Int)
      case neg =>
        have hpe : (p2 != (l.length : Int)) = true := by simpa using hp
        replace hR := hid hR
        go_wp2_with fail
        go_meet
        exact ⟨congrArg Value.bool (decide_eq_true ⟨(by first | rfl | trivial), fun hh => hp hh.1⟩).symm, hR.out⟩
      case pos =>
        have hpe : (p2 != (l.length : Int)) = false := by simpa using hp
        have D0 := hR.c2 0 _ rfl
        have D1 := hR.c2 1 _ rfl
        replace hR := hid hR
        replace hp := hid hp
        go_wp2_with fail
        refine KR.out.mono ?_
        rintro e w6 ⟨rfl, hb6⟩
        replace hR := hid (hR.out.on hb6)
        clear KR C1 C2 D0 D1
        go_wp2_with fail
        go_meet
        refine ⟨congrArg Value.bool ?_, hR.out⟩
        have := hp.out
        cases R <;> simp [this]
  case rest =>
  clear hR KR
  obtain ⟨rfl, hR⟩ := hcut
  go_upto_if 54 with fail
  go_cut [5] (fun s5 wx => s5 = .pointer (some ⟨w.heap.size + 2, 0, none⟩) ∧ Rg w wx w.heap.size (w.heap.size + 1) (w.heap.size + 2) [.slice none 0 0, .slice none 0 0] [.slice Ax xs.length cx, .slice At ts.length ct] A c l (p2, endM l.length (p2, e2) R) (fun W => (OwnEls coEl W (w.heap.size + 3) 46 (.slice Ax xs.length cx) xs ∧ ∀ x ∈ xs, CoOwn W (w.heap.size + 3) x) ∧ TxOwn W (w.heap.size + 3) (.slice At ts.length ct) ts))
  case first =>
    by_cases hz : e2 = 0 ∧ ¬ (p2 = l.length ∧ R = true)
    · have hd : decide (e2 = 0 ∧ ¬ (p2 = l.length ∧ R = true)) = true := decide_eq_true hz
      have F2 := (hR.rr.row.2 2 _ rfl).2
      have C2 := (hR.rr.row.2 2 _ rfl).1
      have hS := hid (hR.err 111)
      go_wp2_with fail
      go_meet
      refine ⟨rfl, ?_⟩
      unfold endM
      rw [if_pos hz.1, if_neg hz.2]
      exact hS.out
    · have hd : decide (e2 = 0 ∧ ¬ (p2 = l.length ∧ R = true)) = false := decide_eq_false hz
      replace hR := hid hR
      go_wp2_with fail
      go_meet
      refine ⟨rfl, ?_⟩
      have he : endM l.length (p2, e2) R = e2 := by
        unfold endM
        by_cases h0 : e2 = 0
        · rw [if_pos h0, if_pos (by by_cases hq : p2 = l.length ∧ R = true; exact hq; exact absurd ⟨h0, hq⟩ hz)]; exact h0.symm
        · rw [if_neg h0]
      rw [he]
      exact hR.out
  case rest =>
  clear hR
  obtain ⟨rfl, hR⟩ := hcut
  obtain ⟨er, her⟩ : ∃ er, endM l.length (p2, e2) R = er := ⟨_, rfl⟩
  rw [her] at hR
  replace hrd := hrd.out
  rw [her] at hrd
  replace hrd := hid hrd
  replace her := hid her
  have C2 := (hR.rr.row.2 2 _ rfl).1
  by_cases hz : er = 0
  · have jz : (er != 0) = false := by simp [hz]
    have D0 := hR.c2 0 _ rfl
    have D1 := hR.c2 1 _ rfl
    have C0 := hR.c1 0 _ rfl
    have F0 := hR.f1 0 _ rfl
    have C1 := hR.c1 1 _ rfl
    have F1 := hR.f1 1 _ rfl
    have hF := ((hR.set1 0 (by simp) (.slice Ax xs.length cx)).set1 1 (by simp) (.slice At ts.length ct))
    simp only [List.set_cons_zero, List.set_cons_succ] at hF
    replace hF := hid hF
    replace hR := hid hR
    go_wp2_with fail
    clear C0 C1 C2 D0 D1 F0 F1
    replace hF := hF.out
    generalize World.setCell _ _ _ = w7 at hF ⊢
    obtain ⟨⟨hE, hP⟩, hT⟩ := hF.x
    refine bodyPost_ret (results_cell2 (k := 2) (k2 := 3) (t := 25) Tryd.results14 rfl rfl hF.r1 Tryd.underlying25 rfl (by kernel_rfl)) rfl ?_
    have hr := hrd.out
    rw [if_pos hz, hz] at hr
    exact ⟨⟨Ax, cx, xs, At, ct, ts⟩, by rw [hr]; rfl, by rw [hr]; exact hD.out, mo_read hE hP hT, hF.below⟩
  · have jz : (er != 0) = true := by simp [hz]
    have C0 := hR.c1 0 _ rfl
    have F0 := hR.f1 0 _ rfl
    have C1 := hR.c1 1 _ rfl
    have F1 := hR.f1 1 _ rfl
    replace hR := hid hR
    go_upto_region 9 with fail
    have bcur := (Below.refl wc.heap.size wc).drew
    have hF := ((hR.out.set1 0 (by simp) (.slice none 0 0)).set1 1 (by simp) (.slice none 0 0)).on (Below.refl _ _).drew
    simp only [List.set_cons_zero, List.set_cons_succ] at hF
    replace hF := hid hF
    refine wp_region_noPanic ?_
    refine wp_region_held_drew (S := (fun W => W.cell? ⟨w.heap.size + 2, 2, none⟩ = some (.int .i64 er))) (by kernel_rfl) ?_ (fun hHeld => ?_)
    · exact C2
    refine wpAnyH_take (i := 0) (oi := ?oi1) (v := ?v1) ?hi1 (by kernel_rfl) (by kernel_rfl) (by kernel_rfl) ?hQ1 ?hy1 (by assumption) ?hrest1
    case hi1 => (simp only [List.getElem?_toArray, List.getElem?_cons_zero]; try rfl)
    case hQ1 => exact fun _ _ _ h => h
    case hy1 =>
      refine Or.inl ⟨by rfl, ?_⟩
      (intro wq hSw; (try dsimp only at hSw); go_simp; try with_reducible rfl)
    (try simp only [Act.put, List.setIfInBounds_toArray, List.set_cons_zero, List.set_cons_succ])
    refine wpAnyH_take (i := 1) (oi := ?oi2) (v := ?v2) ?hi2 (by kernel_rfl) (by kernel_rfl) (by kernel_rfl) ?hQ2 ?hy2 (by assumption) ?hrest2
    case hi2 => (simp only [List.getElem?_toArray, List.getElem?_cons_succ, List.getElem?_cons_zero]; try rfl)
    case hQ2 => exact fun _ _ _ h => h
    case hy2 =>
      refine Or.inl ⟨by rfl, ?_⟩
      (intro wq hSw; (try dsimp only at hSw); go_simp; try with_reducible rfl)
    (try simp only [Act.put, List.setIfInBounds_toArray, List.set_cons_zero, List.set_cons_succ])
    refine wpAnyH_take (i := 2) (oi := ?oi3) (v := ?v3) ?hi3 (by kernel_rfl) (by kernel_rfl) (by kernel_rfl) ?hQ3 ?hy3 (by assumption) ?hrest3
    case hi3 => (simp only [List.getElem?_toArray, List.getElem?_cons_succ, List.getElem?_cons_zero]; try rfl)
    case hQ3 => exact fun _ _ _ h => h
    case hy3 =>
      refine Or.inl ⟨by rfl, ?_⟩
      (intro wq hSw; (try dsimp only at hSw); go_simp; try with_reducible rfl)
    (try simp only [Act.put, List.setIfInBounds_toArray, List.set_cons_zero, List.set_cons_succ])
    refine wpAnyH_take (i := 3) (oi := ?oi4) (v := ?v4) ?hi4 (by kernel_rfl) (by kernel_rfl) (by kernel_rfl) ?hQ4 ?hy4 (by assumption) ?hrest4
    case hi4 => (simp only [List.getElem?_toArray, List.getElem?_cons_succ, List.getElem?_cons_zero]; try rfl)
    case hQ4 => exact fun _ _ _ h => h
    case hy4 =>
      refine Or.inl ⟨by rfl, ?_⟩
      (intro wq hSw; (try dsimp only at hSw); go_simp; try with_reducible rfl)
    (try simp only [Act.put, List.setIfInBounds_toArray, List.set_cons_zero, List.set_cons_succ])
    refine wpAnyH_take (i := 4) (oi := ?oi5) (v := ?v5) ?hi5 (by kernel_rfl) (by kernel_rfl) (by kernel_rfl) ?hQ5 ?hy5 (by assumption) ?hrest5
    case hi5 => (simp only [List.getElem?_toArray, List.getElem?_cons_succ, List.getElem?_cons_zero]; try rfl)
    case hQ5 => exact fun _ _ _ h => h
    case hy5 =>
      refine Or.inl ⟨by rfl, ?_⟩
      (intro wq hSw; (try dsimp only at hSw); go_simp; try with_reducible rfl)
    (try simp only [Act.put, List.setIfInBounds_toArray, List.set_cons_zero, List.set_cons_succ])
    refine wpAnyH_ready (rs := [5]) (by kernel_rfl) (by simp) ?_
    refine AllReadyH.cons (o := ?oi6) ?hi6 (fun K hK => ?hstep6) AllReadyH.nil
    case hi6 => (simp only [List.getElem?_toArray, List.getElem?_cons_succ, List.getElem?_cons_zero]; try rfl)
    go_simp
    (skip)
    refine hK.out _ _ ?_ (fun hHeld => ?_)
    · exact (World.cell?_setCell_other _ _ _ _ (by simp)).trans ((World.cell?_setCell_other _ _ _ _ (by simp)).trans C2)
    clear hK K
    (try simp only [Act.put, List.setIfInBounds_toArray, List.set_cons_zero, List.set_cons_succ])
    refine wpAnyH_take (i := 6) (oi := ?oi7) (v := ?v7) ?hi7 (by kernel_rfl) (by kernel_rfl) (by kernel_rfl) ?hQ7 ?hy7 (by assumption) ?hrest7
    case hi7 => (simp only [List.getElem?_toArray, List.getElem?_cons_succ, List.getElem?_cons_zero]; try rfl)
    case hQ7 => exact fun _ _ _ h => h
    case hy7 =>
      refine Or.inl ⟨by rfl, ?_⟩
      (intro wq hSw; (try dsimp only at hSw); go_simp; try with_reducible rfl)
    (try simp only [Act.put, List.setIfInBounds_toArray, List.set_cons_zero, List.set_cons_succ])
    refine wpAnyH_done (by kernel_rfl) ?_ _
    refine NoPanic.normal ?_
    (skip)
    clear C0 C1 C2 F0 F1
    replace hF := hF.out
    generalize World.drew _ = w7 at hF ⊢
    go_wp2_with fail
    refine bodyPost_ret (results_cell2 (k := 2) (k2 := 3) (t := 25) Tryd.results14 rfl rfl hF.r1 Tryd.underlying25 rfl (by kernel_rfl)) rfl ?_
    have hr := hrd.out
    rw [if_neg hz] at hr
    exact ⟨⟨none, 0, [], none, 0, []⟩, by rw [hr]; rfl, by rw [hr]; rfl, ⟨Els.nil _ _ _, fun x hx => (by cases hx), Els.nil _ _ _, by decide, by decide⟩, hF.below⟩
end Go.Proofs.YtnkocbdbfkhgmaaDoor
