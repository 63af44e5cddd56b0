import Derived.Test.YtnkocbdbfkhgmaaDoorCodeP
import Derived.Test.YtnkocbdbfkhgmaaDoorCodeB
/-! the ref's code: what may be a module -/
namespace Go.Proofs.YtnkocbdbfkhgmaaDoor
open Go.RowKit Go.Cov
set_option maxHeartbeats 1600000 in
theorem rtyped_any (t : Int) (w : World) : Calls Tryd.prog 69 #[.int .i64 t] w fun e w' => e = .returned (.bool (typedD t)) ∧ w = w' := by
  obtain ⟨r, hr⟩ : ∃ r, typedD t = r := ⟨_, rfl⟩
  rw [hr]
  by_cases h1 : 1 ≤ t
  · have j1 : decide (1 ≤ t) = true := decide_eq_true h1
    have j2 : decide (t ≤ 3) = r := by
      rw [← hr]; unfold typedD; by_cases h : t ≤ 3 <;> simp [h, h1]
    clear h1 hr
    go_enter Tryd.func69, Tryd.ntmps69
    go_wp2_with fail
    go_ret
    exact ⟨rfl, rfl⟩
  · have j1 : decide (1 ≤ t) = false := decide_eq_false h1
    have j2 : r = false := by rw [← hr]; unfold typedD; simp [h1]
    subst j2
    clear h1 hr
    go_enter Tryd.func69, Tryd.ntmps69
    go_wp2_with fail
    go_ret
    exact ⟨rfl, rfl⟩
def wellC (nm : List UInt8) (ps : List Int) (res slots : Int) (is : List ID) : Prop := nm.length ≤ 16 ∧ ps.length ≤ 16 ∧ (0 ≤ res ∧ res ≤ 3) ∧ (ps.length : Int) ≤ slots ∧ slots ≤ 256 ∧ is.length ≤ 16384
theorem rightC_no {nm : List UInt8} {ps : List Int} {res slots : Int} {is : List ID} (h : ¬ wellC nm ps res slots is) : rightC (nm, ps, res, slots, is) = false := by
  unfold wellC at h
  unfold rightC
  dsimp only
  rw [decide_eq_false h]; rfl
theorem rightC_well {nm : List UInt8} {ps : List Int} {res slots : Int} {is : List ID} (h : wellC nm ps res slots is) : rightC (nm, ps, res, slots, is) = (ps.all typedD && is.all opD) := by
  unfold wellC at h
  unfold rightC
  dsimp only
  rw [decide_eq_true h, Bool.true_and]
theorem all_at {α : Type} {p : α → Bool} {l : List α} (k : Nat) (hk : k < l.length) (h : p l[k] = false) : l.all p = false := by
  rw [List.all_eq_false]; exact ⟨l[k], List.getElem_mem hk, by rw [h]; decide⟩
theorem all_to {α : Type} {p : α → Bool} {l : List α} (h : ∀ j, (hj : j < l.length) → p l[j] = true) : l.all p = true := by
  rw [List.all_eq_true]; intro x hx; obtain ⟨j, hj, rfl⟩ := List.getElem_of_mem hx; exact h j hj
set_option maxRecDepth 100000 in
set_option maxHeartbeats 6400000 in
theorem rcodeR_any {w : World} {x : Co} (h : CoRd w x) : Calls Tryd.prog 45 #[.agg #[.string (str x.nm), .slice x.pA x.ps.length x.pc, .int .i64 x.res, .int .i64 x.slots, .slice x.iA x.is.length x.ic]] w fun e w' => e = .returned (.bool (rightC x.data)) ∧ Below w.heap.size w w' := by
  obtain ⟨nm, pA, pc, ps, res, slots, iA, ic, is⟩ := x
  have xcm := code_len h.pc
  have xim := code_len h.ic
  unfold Co.data
  dsimp only at xcm xim ⊢
  have b1 := below_alloc w (.cells #[.string (str nm), .slice pA ps.length pc, .int .i64 res, .int .i64 slots, .slice iA is.length ic] 46)
  have R1 := Row.new w [.string (str nm), .slice pA ps.length pc, .int .i64 res, .int .i64 slots, .slice iA is.length ic] 46
  replace h := hid (h.below b1)
  obtain ⟨y, hy⟩ : ∃ y, rightC (nm, ps, res, slots, is) = y := ⟨_, rfl⟩
  rw [hy]
  have hno := hid (show ¬ wellC nm ps res slots is → y = false from fun hh => by rw [← hy]; exact rightC_no hh)
  have hwl := hid (show wellC nm ps res slots is → y = (ps.all typedD && is.all opD) from fun hh => by rw [← hy]; exact rightC_well hh)
  unfold wellC at hno hwl
  clear hy
  have hss : (str nm).size = nm.length := str_size nm
  go_enter Tryd.func45, Tryd.ntmps45
  go_upto_region 1 with fail
  change Row (w.alloc (.cells #[.string (str nm), .slice pA ps.length pc, .int .i64 res, .int .i64 slots, .slice iA is.length ic] 46)) _ _ at R1
  generalize w.alloc (.cells #[.string (str nm), .slice pA ps.length pc, .int .i64 res, .int .i64 slots, .slice iA is.length ic] 46) = w1 at b1 R1 h ⊢
  have C0 := (R1.2 0 _ rfl).1
  have C1 := (R1.2 1 _ rfl).1
  have C2 := (R1.2 2 _ rfl).1
  have C3 := (R1.2 3 _ rfl).1
  have C4 := (R1.2 4 _ rfl).1
  replace R1 := hid R1
  obtain ⟨ns, hns⟩ : ∃ n, (str nm).size = n := ⟨_, rfl⟩
  have hns2 : nm.length = ns := by rw [← hns]; exact hss.symm
  clear hss
  rw [hns2] at hno hwl
  clear hns2
  obtain ⟨z, hz1, hz2⟩ : ∃ z : Bool, Hid (¬ (ns ≤ 16 ∧ ps.length ≤ 16 ∧ (0 ≤ res ∧ res ≤ 3) ∧ (ps.length : Int) ≤ slots ∧ slots ≤ 256 ∧ is.length ≤ 16384) → z = true) ∧ Hid (z = false → (ns ≤ 16 ∧ ps.length ≤ 16 ∧ (0 ≤ res ∧ res ≤ 3) ∧ (ps.length : Int) ≤ slots ∧ slots ≤ 256 ∧ is.length ≤ 16384)) ∧ Hid (z = true → ¬ (ns ≤ 16 ∧ ps.length ≤ 16 ∧ (0 ≤ res ∧ res ≤ 3) ∧ (ps.length : Int) ≤ slots ∧ slots ≤ 256 ∧ is.length ≤ 16384)) := by
    by_cases hw : (ns ≤ 16 ∧ ps.length ≤ 16 ∧ (0 ≤ res ∧ res ≤ 3) ∧ (ps.length : Int) ≤ slots ∧ slots ≤ 256 ∧ is.length ≤ 16384)
    · exact ⟨false, hid (fun h => absurd hw h), hid (fun _ => hw), hid (fun h => by cases h)⟩
    · exact ⟨true, hid (fun _ => rfl), hid (fun h => by cases h), hid (fun _ => hw)⟩
  obtain ⟨hz2, hz3⟩ := hz2
  have KT := rtyped_any res w1
  obtain ⟨tr, htr⟩ : ∃ r, typedD res = r := ⟨_, rfl⟩
  rw [htr] at KT
  replace KT := hid KT
  go_cut [44] (fun s44 wx => s44 = .bool z ∧ wx = w1)
  case first =>
    by_cases h1 : 16 < (ns : Int)
    · have j1 : decide (16 < (ns : Int)) = true := decide_eq_true h1
      have e9 := hid (hz1.out (fun hh => by omega))
      replace h1 := hid h1
      go_wp2_with fail
      (try (refine KT.out.mono ?_; rintro e w2 ⟨rfl, rfl⟩; go_wp2_with fail))
      go_meet
      exact ⟨congrArg Value.bool e9.out.symm, rfl⟩
    have j1 : decide (16 < (ns : Int)) = false := decide_eq_false h1
    by_cases h2 : 16 < (ps.length : Int)
    · have j2 : decide (16 < (ps.length : Int)) = true := decide_eq_true h2
      have e9 := hid (hz1.out (fun hh => by omega))
      replace h2 := hid h2
      go_wp2_with fail
      (try (refine KT.out.mono ?_; rintro e w2 ⟨rfl, rfl⟩; go_wp2_with fail))
      go_meet
      exact ⟨congrArg Value.bool e9.out.symm, rfl⟩
    have j2 : decide (16 < (ps.length : Int)) = false := decide_eq_false h2
    by_cases h3 : ¬ (0 ≤ res ∧ res ≤ 3)
    · have e9 := hid (hz1.out (fun hh => h3 hh.2.2.1))
      have jn : (res != 0) = true := by simp; omega
      have htf : tr = false := by rw [← htr]; unfold typedD; exact decide_eq_false (by omega)
      subst htf
      replace h3 := hid h3
      clear htr
      go_wp2_with fail
      refine KT.out.mono ?_
      rintro e w2 ⟨rfl, rfl⟩
      go_wp2_with fail
      go_meet
      exact ⟨congrArg Value.bool e9.out.symm, rfl⟩
    have h3' : 0 ≤ res ∧ res ≤ 3 := Classical.not_not.1 h3
    clear h3
    have jt : (tr = true ∧ True) ∨ (tr = false ∧ (res != 0) = false) := by
      by_cases hz : res = 0
      · right; subst hz; exact ⟨by rw [← htr]; rfl, rfl⟩
      · left; rw [← htr]; unfold typedD; exact ⟨decide_eq_true (by omega), trivial⟩
    clear htr
    rcases jt with ⟨rfl, jn⟩ | ⟨rfl, jn⟩
    all_goals (
      by_cases h4 : slots < (ps.length : Int)
      · have j4 : decide (slots < (ps.length : Int)) = true := decide_eq_true h4
        have e9 := hid (hz1.out (fun hh => by omega))
        replace h4 := hid h4
        go_wp2_with fail
        (try (refine KT.out.mono ?_; rintro e w2 ⟨rfl, rfl⟩; go_wp2_with fail))
        go_meet
        exact ⟨congrArg Value.bool e9.out.symm, rfl⟩
      have j4 : decide (slots < (ps.length : Int)) = false := decide_eq_false h4
      by_cases h5 : 256 < slots
      · have j5 : decide (256 < slots) = true := decide_eq_true h5
        have e9 := hid (hz1.out (fun hh => by omega))
        replace h5 := hid h5
        go_wp2_with fail
        (try (refine KT.out.mono ?_; rintro e w2 ⟨rfl, rfl⟩; go_wp2_with fail))
        go_meet
        exact ⟨congrArg Value.bool e9.out.symm, rfl⟩
      have j5 : decide (256 < slots) = false := decide_eq_false h5
      by_cases h6 : 16384 < (is.length : Int)
      · have j6 : decide (16384 < (is.length : Int)) = true := decide_eq_true h6
        have e9 := hid (hz1.out (fun hh => by omega))
        replace h6 := hid h6
        go_wp2_with fail
        (try (refine KT.out.mono ?_; rintro e w2 ⟨rfl, rfl⟩; go_wp2_with fail))
        go_meet
        exact ⟨congrArg Value.bool e9.out.symm, rfl⟩
      have j6 : decide (16384 < (is.length : Int)) = false := decide_eq_false h6
      have e9 : z = false := by
        cases hzz : z
        · rfl
        · exact absurd ⟨by omega, by omega, h3', by omega, by omega, by omega⟩ (hz3.out hzz)
      replace e9 := hid e9
      replace h1 := hid h1
      replace h2 := hid h2
      replace h4 := hid h4
      replace h5 := hid h5
      replace h6 := hid h6
      go_wp2_with fail
      (refine KT.out.mono ?_; rintro e w2 ⟨rfl, rfl⟩; go_wp2_with fail)
      go_meet
      exact ⟨congrArg Value.bool e9.out.symm, rfl⟩)
  case rest =>
  obtain ⟨rfl, rfl⟩ := hcut
  clear KT htr
  cases z
  case true =>
    have e9 := hid (hno.out (hz3.out rfl))
    go_wp2_with fail
    go_ret
    exact ⟨by rw [e9.out]; rfl, b1⟩
  have hyy := hwl.out (hz2.out rfl)
  clear hno hwl hz1 hz2 hz3 C0 C2 C3 hns
  have hf1 := hid (show ps.all typedD = false → y = false from fun e => by rw [hyy, e]; rfl)
  have hf2 := hid (show is.all opD = false → y = false from fun e => by rw [hyy, e, Bool.and_false])
  have ht := hid (show ps.all typedD = true → is.all opD = true → y = true from fun e e' => by rw [hyy, e, e']; rfl)
  clear hyy
  obtain ⟨w1, hw1⟩ : ∃ x : World, x = wc := ⟨_, rfl⟩
  rw [← hw1] at b1 R1 h C1 C4 ⊢
  clear hw1
  go_wp2_with fail
  go_loopw [3] (fun i W => ∃ k : Nat, k ≤ ps.length ∧ i = .int .i64 k ∧ Hid (∀ j, (hj : j < ps.length) → j < k → typedD ps[j] = true) ∧ W = w1) (fun i _ => ps.length - (RowKit.intOf i).toNat)
  case atStart => exact ⟨0, by omega, rfl, hid (fun j _ hj => by omega), rfl⟩
  case round =>
    obtain ⟨k, hk, rfl, hall, rfl⟩ := hrel
    by_cases hlt : k < ps.length
    · have i0 : (0 : Int) ≤ k := by omega
      have i1 : (k : Int) < ps.length := by omega
      obtain ⟨ad, hA, x0⟩ := ty_at h.out.p k hlt
      dsimp only at hA
      subst hA
      have hnx := hid (show typedD ps[k] = true → ∀ j, (hj : j < ps.length) → j < k + 1 → typedD ps[j] = true from fun e j hj h2 => by
        by_cases hjk : j = k
        · subst hjk; exact e
        · exact hall.out j hj (by omega))
      have hdx := hid (show typedD ps[k] = false → y = false from fun e => hf1.out (all_at k hlt e))
      generalize ps[k] = t at x0 hnx hdx
      have KT := rtyped_any t wr
      obtain ⟨r, hr⟩ : ∃ r, typedD t = r := ⟨_, rfl⟩
      rw [hr] at KT
      replace hr := hid hr
      replace KT := hid KT
      go_wp2_with fail
      refine KT.out.mono ?_
      rintro e w2 ⟨rfl, rfl⟩
      clear KT
      cases r
      case false =>
        have e9 := hid (hdx.out hr.out)
        go_wp2_with fail
        go_ret
        exact ⟨by rw [e9.out]; rfl, b1⟩
      case true =>
        have hn2 := hid (hnx.out hr.out)
        go_wp2_with fail
        go_roundw
        case rel => exact ⟨k + 1, by omega, by go_num, hn2, (by first | rfl | trivial)⟩
        case measure => simp [RowKit.intOf]; omega
    · obtain rfl : k = ps.length := by omega
      have hps := hid (all_to (fun j hj => hall.out j hj hj))
      clear hall
      obtain ⟨w1, hw1⟩ : ∃ x : World, x = wr := ⟨_, rfl⟩
      rw [← hw1] at b1 R1 h C1 C4 ⊢
      clear hw1
      go_wp2_with fail
      go_loopw [4] (fun i W => ∃ k : Nat, k ≤ is.length ∧ i = .int .i64 k ∧ Hid (∀ j, (hj : j < is.length) → j < k → opD is[j] = true) ∧ W = w1) (fun i _ => is.length - (RowKit.intOf i).toNat)
      case atStart => exact ⟨0, by omega, rfl, hid (fun j _ hj => by omega), rfl⟩
      case round =>
        obtain ⟨k, hk, rfl, hall, rfl⟩ := hrel
        by_cases hlt : k < is.length
        · have i0 : (0 : Int) ≤ k := by omega
          have i1 : (k : Int) < is.length := by omega
          obtain ⟨ad, hA, x0, x1⟩ := ins_at h.out.i k hlt
          dsimp only at hA
          subst hA
          have hnx := hid (show opD is[k] = true → ∀ j, (hj : j < is.length) → j < k + 1 → opD is[j] = true from fun e j hj h2 => by
            by_cases hjk : j = k
            · subst hjk; exact e
            · exact hall.out j hj (by omega))
          have hdx := hid (show opD is[k] = false → y = false from fun e => hf2.out (all_at k hlt e))
          generalize is[k] = t at x0 x1 hnx hdx
          obtain ⟨t, t2⟩ := t
          dsimp only at x0 x1
          by_cases g1 : t < 1
          · have j1 : decide (t < 1) = true := decide_eq_true g1
            have e9 := hid (hdx.out (by unfold opD; exact decide_eq_false (by dsimp only; omega)))
            replace g1 := hid g1
            go_wp2_with fail
            go_ret
            exact ⟨by rw [e9.out]; rfl, b1⟩
          · have j1 : decide (t < 1) = false := decide_eq_false g1
            by_cases g2 : 18 < t
            · have j2 : decide (18 < t) = true := decide_eq_true g2
              have e9 := hid (hdx.out (by unfold opD; exact decide_eq_false (by dsimp only; omega)))
              replace g1 := hid g1
              replace g2 := hid g2
              go_wp2_with fail
              go_ret
              exact ⟨by rw [e9.out]; rfl, b1⟩
            · have j2 : decide (18 < t) = false := decide_eq_false g2
              have hn2 := hid (hnx.out (by unfold opD; exact decide_eq_true (by dsimp only; omega)))
              replace g1 := hid g1
              replace g2 := hid g2
              go_wp2_with fail
              go_roundw
              case rel => exact ⟨k + 1, by omega, by go_num, hn2, (by first | rfl | trivial)⟩
              case measure => simp [RowKit.intOf]; omega
        · obtain rfl : k = is.length := by omega
          have e9 := hid (ht.out hps.out (all_to (fun j hj => hall.out j hj hj)))
          go_wp2_with fail
          go_ret
          exact ⟨by rw [e9.out]; rfl, b1⟩
set_option maxRecDepth 100000 in
set_option maxHeartbeats 6400000 in
theorem rright_any {w : World} {m : Mo} (h : MoRd w m) : Calls Tryd.prog 18 #[.agg #[.slice m.cA m.cs.length m.cc, .slice m.tA m.ts.length m.tc]] w fun e w' => e = .returned (.bool (rightMo m.data)) ∧ Below w.heap.size w w' := by
  obtain ⟨y, hy⟩ : ∃ y, rightMo m.data = y := ⟨_, rfl⟩
  have hof := rightMo_of m
  rw [hy] at hof ⊢
  clear hy
  have xcm := code_len h.cc
  have xtm := code_len h.tc
  obtain ⟨cA, cc, cs, tA, tc, ts⟩ := m
  dsimp only at hof xcm xtm ⊢
  have f1 := hid (show 64 < cs.length → y = false from fun e => by rw [hof, decide_eq_false (by omega)]; rfl)
  have f2 := hid (show 1024 < ts.length → y = false from fun e => by rw [hof, decide_eq_false (show ¬ ts.length ≤ 1024 by omega), Bool.false_and, Bool.and_false])
  have f3 := hid (show (ts.all (fun s => decide (s.l.length ≤ 64))) = false → y = false from fun e => by rw [hof, e, Bool.false_and, Bool.and_false, Bool.and_false])
  have f4 := hid (show (cs.all (fun c => rightC c.data)) = false → y = false from fun e => by rw [hof, e, Bool.and_false, Bool.and_false, Bool.and_false])
  have f5 := hid (show cs.length ≤ 64 → ts.length ≤ 1024 → (ts.all (fun s => decide (s.l.length ≤ 64))) = true → (cs.all (fun c => rightC c.data)) = true → y = true from fun e1 e2 e3 e4 => by rw [hof, decide_eq_true e1, decide_eq_true e2, e3, e4]; rfl)
  clear hof
  have b1 := below_alloc w (.cells #[.slice cA cs.length cc, .slice tA ts.length tc] 25)
  have R1 := Row.new w [.slice cA cs.length cc, .slice tA ts.length tc] 25
  replace h := hid (h.below b1)
  go_enter Tryd.func18, Tryd.ntmps18
  go_upto_region 1 with fail
  change Row (w.alloc (.cells #[.slice cA cs.length cc, .slice tA ts.length tc] 25)) _ _ at R1
  generalize w.alloc (.cells #[.slice cA cs.length cc, .slice tA ts.length tc] 25) = w1 at b1 R1 h ⊢
  have C0 := (R1.2 0 _ rfl).1
  have C1 := (R1.2 1 _ rfl).1
  replace R1 := hid R1
  by_cases h1 : 64 < (cs.length : Int)
  · have j1 : decide (64 < (cs.length : Int)) = true := decide_eq_true h1
    have e9 := hid (f1.out (by omega))
    replace h1 := hid h1
    go_wp2_with fail
    go_ret
    exact ⟨by rw [e9.out]; rfl, b1⟩
  have j1 : decide (64 < (cs.length : Int)) = false := decide_eq_false h1
  by_cases h2 : 1024 < (ts.length : Int)
  · have j2 : decide (1024 < (ts.length : Int)) = true := decide_eq_true h2
    have e9 := hid (f2.out (by omega))
    replace h1 := hid h1
    replace h2 := hid h2
    go_wp2_with fail
    go_ret
    exact ⟨by rw [e9.out]; rfl, b1⟩
  have j2 : decide (1024 < (ts.length : Int)) = false := decide_eq_false h2
  have hl1 := hid (show cs.length ≤ 64 by omega)
  have hl2 := hid (show ts.length ≤ 1024 by omega)
  clear h1 h2
  go_wp2_with fail
  go_loopw [3] (fun i W => ∃ k : Nat, k ≤ ts.length ∧ i = .int .i64 k ∧ Hid (∀ j, (hj : j < ts.length) → j < k → decide (ts[j].l.length ≤ 64) = true) ∧ W = w1) (fun i _ => ts.length - (RowKit.intOf i).toNat)
  case atStart => exact ⟨0, by omega, rfl, hid (fun j _ hj => by omega), rfl⟩
  case round =>
    obtain ⟨k, hk, rfl, hall, rfl⟩ := hrel
    by_cases hlt : k < ts.length
    · have i0 : (0 : Int) ≤ k := by omega
      have i1 : (k : Int) < ts.length := by omega
      obtain ⟨ad, hA, x0⟩ := tx_at h.out.t k hlt
      dsimp only at hA
      subst hA
      have hnx := hid (show decide (ts[k].l.length ≤ 64) = true → ∀ j, (hj : j < ts.length) → j < k + 1 → decide (ts[j].l.length ≤ 64) = true from fun e j hj h2 => by
        by_cases hjk : j = k
        · subst hjk; exact e
        · exact hall.out j hj (by omega))
      have hdx := hid (show decide (ts[k].l.length ≤ 64) = false → y = false from fun e => f3.out (all_at k hlt e))
      generalize ts[k] = t at x0 hnx hdx
      obtain ⟨A, c, l⟩ := t
      unfold SlR.val at x0
      dsimp only at x0 hnx hdx
      by_cases hl : 64 < (l.length : Int)
      · have j3 : decide (64 < (l.length : Int)) = true := decide_eq_true hl
        have e9 := hid (hdx.out (decide_eq_false (by omega)))
        replace hl := hid hl
        go_wp2_with fail
        go_ret
        exact ⟨by rw [e9.out]; rfl, b1⟩
      · have j3 : decide (64 < (l.length : Int)) = false := decide_eq_false hl
        have hn2 := hid (hnx.out (decide_eq_true (by omega)))
        replace hl := hid hl
        go_wp2_with fail
        go_roundw
        case rel => exact ⟨k + 1, by omega, by go_num, hn2, (by first | rfl | trivial)⟩
        case measure => simp [RowKit.intOf]; omega
    · obtain rfl : k = ts.length := by omega
      have hts := hid (all_to (p := fun s : SlR => decide (s.l.length ≤ 64)) (fun j hj => hall.out j hj hj))
      clear hall
      obtain ⟨w2, hw2⟩ : ∃ x : World, x = wr := ⟨_, rfl⟩
      rw [← hw2] at b1 R1 h C0 C1 ⊢
      clear hw2
      have C1' := hid C1
      go_wp2_with fail
      go_loopw [4] (fun i W => ∃ k : Nat, k ≤ cs.length ∧ i = .int .i64 k ∧ Hid (∀ j, (hj : j < cs.length) → j < k → rightC cs[j].data = true) ∧ Below w2.heap.size w2 W) (fun i _ => cs.length - (RowKit.intOf i).toNat)
      case atStart => exact ⟨0, by omega, rfl, hid (fun j _ hj => by omega), Below.refl _ _⟩
      case round =>
        obtain ⟨k, hk, rfl, hall, hb⟩ := hrel
        clear C0 C1
        have C0 := ((R1.out.below hb).2 0 _ rfl).1
        by_cases hlt : k < cs.length
        · have i0 : (0 : Int) ≤ k := by omega
          have i1 : (k : Int) < cs.length := by omega
          obtain ⟨ad, hA, x0, x1, x2, x3, x4⟩ := co_at (h.out.c.below hb) k hlt
          dsimp only at hA
          subst hA
          have hxr := (h.out.r _ (List.getElem_mem hlt)).below hb
          have hnx := hid (show rightC cs[k].data = true → ∀ j, (hj : j < cs.length) → j < k + 1 → rightC cs[j].data = true from fun e j hj h2 => by
            by_cases hjk : j = k
            · subst hjk; exact e
            · exact hall.out j hj (by omega))
          have hdx := hid (show rightC cs[k].data = false → y = false from fun e => f4.out (all_at k hlt e))
          generalize cs[k] = t at x0 x1 x2 x3 x4 hxr hnx hdx
          have K := rcodeR_any hxr
          obtain ⟨r, hr⟩ : ∃ r, rightC t.data = r := ⟨_, rfl⟩
          rw [hr] at K
          replace hr := hid hr
          replace K := hid K
          obtain ⟨nm, pA, pc, ps, res, slots, iA, ic, is⟩ := t
          dsimp only at x0 x1 x2 x3 x4 K
          clear hxr
          go_wp2_with fail
          refine K.out.mono ?_
          rintro e w3 ⟨rfl, hb3⟩
          clear K x0 x1 x2 x3 x4
          have hb4 := below_step hb hb3
          cases r
          case false =>
            have e9 := hid (hdx.out hr.out)
            go_wp2_with fail
            go_ret
            exact ⟨by rw [e9.out]; rfl, below_step b1 hb4⟩
          case true =>
            have hn2 := hid (hnx.out hr.out)
            go_wp2_with fail
            go_roundw
            case rel => exact ⟨k + 1, by omega, by go_num, hn2, hb4⟩
            case measure => simp [RowKit.intOf]; omega
        · obtain rfl : k = cs.length := by omega
          have e9 := hid (f5.out hl1.out hl2.out hts.out (all_to (p := fun c : Co => rightC c.data) (fun j hj => hall.out j hj hj)))
          go_wp2_with fail
          go_ret
          exact ⟨by rw [e9.out]; rfl, below_step b1 hb⟩
end Go.Proofs.YtnkocbdbfkhgmaaDoor
