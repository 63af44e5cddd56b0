import Derived.Test.YtnkocbdbfkhgmaaDoorCodeA
import Derived.Test.YtnkocbdbfkhgmaaDoorPlain1
/-! code: may it be a module -/
namespace Go.Proofs.YtnkocbdbfkhgmaaDoor
open Go.RowKit Go.Cov Go.Shelf
set_option maxHeartbeats 1600000 in
theorem typed_any (t : Int) (w : World) : Calls Tryd.prog 42 #[.int .i64 t] w fun e w' => e = .returned (.bool (typedD t)) ∧ w = w' := by
  obtain ⟨r, hr⟩ : ∃ r, typedD t = r := ⟨_, rfl⟩
  rw [hr]
  by_cases h1 : 1 ≤ t
  · have j1 : decide (1 ≤ t) = true := decide_eq_true h1
    have j2 : decide (t ≤ 3) = r := by
      rw [← hr]; unfold typedD; by_cases h : t ≤ 3 <;> simp [h, h1]
    clear h1 hr
    go_enter Tryd.func42, Tryd.ntmps42
    go_wp2_with fail
    go_ret
    exact ⟨rfl, rfl⟩
  · have j1 : decide (1 ≤ t) = false := decide_eq_false h1
    have j2 : r = false := by rw [← hr]; unfold typedD; simp [h1]
    subst j2
    clear h1 hr
    go_enter Tryd.func42, Tryd.ntmps42
    go_wp2_with fail
    go_ret
    exact ⟨rfl, rfl⟩
set_option maxHeartbeats 1600000 in
theorem short_any {w : World} {A : Option Addr} {n c : Nat} (hn : n ≤ 9223372036854775807) : Calls Tryd.prog 38 #[.slice A n c] w fun e w' => e = .returned (.bool (decide (n ≤ 64))) ∧ w = w' := by
  have j1 : decide ((n : Int) ≤ 64) = decide (n ≤ 64) := by by_cases h : n ≤ 64 <;> simp [h] <;> omega
  generalize decide (n ≤ 64) = r at j1 ⊢
  go_enter Tryd.func38, Tryd.ntmps38
  go_wp2_with fail
  go_ret
  exact ⟨rfl, rfl⟩
set_option maxHeartbeats 1600000 in
theorem isop_any (i : ID) (w : World) : Calls Tryd.prog 44 #[.agg #[.int .i64 i.1, .int .i64 i.2]] w fun e w' => e = .returned (.bool (opD i)) ∧ Below w.heap.size w w' := by
  obtain ⟨t, a⟩ := i
  obtain ⟨r, hr⟩ : ∃ r, opD (t, a) = r := ⟨_, rfl⟩
  rw [hr]
  have b1 := below_alloc w (.cells #[.int .i64 t, .int .i64 a] 50)
  have R1 := Row.new w [.int .i64 t, .int .i64 a] 50
  by_cases h1 : 1 ≤ t
  · have j1 : decide (1 ≤ t) = true := decide_eq_true h1
    have j2 : decide (t ≤ 18) = r := by
      rw [← hr]; unfold opD; by_cases h : t ≤ 18 <;> simp [h, h1]
    clear h1 hr
    go_enter Tryd.func44, Tryd.ntmps44
    go_upto_region 1 with fail
    change Row (w.alloc (.cells #[.int .i64 t, .int .i64 a] 50)) _ _ at R1
    generalize w.alloc (.cells #[.int .i64 t, .int .i64 a] 50) = w1 at b1 R1 ⊢
    have C0 := (R1.2 0 _ rfl).1
    go_wp2_with fail
    go_ret
    exact ⟨rfl, b1⟩
  · have j1 : decide (1 ≤ t) = false := decide_eq_false h1
    have j2 : r = false := by rw [← hr]; unfold opD; simp [h1]
    subst j2
    clear h1 hr
    go_enter Tryd.func44, Tryd.ntmps44
    go_upto_region 1 with fail
    change Row (w.alloc (.cells #[.int .i64 t, .int .i64 a] 50)) _ _ at R1
    generalize w.alloc (.cells #[.int .i64 t, .int .i64 a] 50) = w1 at b1 R1 ⊢
    have C0 := (R1.2 0 _ rfl).1
    go_wp2_with fail
    go_ret
    exact ⟨rfl, b1⟩
theorem rightC_of (nm : List UInt8) (ps : List Int) (res slots : Int) (is : List ID) : rightC (nm, ps, res, slots, is) = (decide (nm.length ≤ 16) && (decide (ps.length ≤ 16) && (ps.all typedD && (decide (0 ≤ res ∧ res ≤ 3) && (decide ((ps.length : Int) ≤ slots) && (decide (slots ≤ 256) && (decide (is.length ≤ 16384) && is.all opD))))))) := by
  unfold rightC
  dsimp only
  rw [Bool.eq_iff_iff]
  simp only [Bool.and_eq_true, decide_eq_true_eq]
  constructor
  · rintro ⟨⟨⟨a, b, c, d, e, f⟩, g⟩, h⟩; exact ⟨a, b, g, c, d, e, f, h⟩
  · rintro ⟨a, b, g, c, d, e, f, h⟩; exact ⟨⟨⟨a, b, c, d, e, f⟩, g⟩, h⟩
set_option maxRecDepth 100000 in
set_option maxHeartbeats 3200000 in
theorem rcode_any {w : World} {x : Co} (h : CoRd w x) : Calls Tryd.prog 40 #[.agg #[.string (str x.nm), .slice x.pA x.ps.length x.pc, .int .i64 x.res, .int .i64 x.slots, .slice x.iA x.is.length x.ic]] w fun e w' => e = .returned (.bool (rightC x.data)) ∧ Below w.heap.size w w' := by
  obtain ⟨nm, pA, pc, ps, res, slots, iA, ic, is⟩ := x
  obtain ⟨hp, hi, ⟨hp1, hp2⟩, hi1, hi2⟩ := h
  unfold maxLen at hp2 hi2
  dsimp only at hp hi hp1 hp2 hi1 hi2
  have b1 := below_alloc w (.cells #[.string (str nm), .slice pA ps.length pc, .int .i64 res, .int .i64 slots, .slice iA is.length ic] 46)
  have R1 := Row.new w [.string (str nm), .slice pA ps.length pc, .int .i64 res, .int .i64 slots, .slice iA is.length ic] 46
  have KP := fun W (hW : Below w.heap.size w W) => every_ty (c := pc) (hp.below hW) (by omega) typedD 42 (enters_of Tryd.func42 (by kernel_rfl) rfl) (fun V _ x _ => (typed_any x V).mono fun e w' hh => ⟨hh.1, by rw [← hh.2]; exact Below.refl _ _⟩)
  have KI := fun W (hW : Below w.heap.size w W) => every_ins (c := ic) (hi.below hW) (by omega) opD 44 (enters_of Tryd.func44 (by kernel_rfl) rfl) (fun V _ x _ => isop_any x V)
  unfold Co.data
  dsimp only
  rw [rightC_of]
  clear hp hi
  have j1 : decide (((str nm).size : Int) ≤ 16) = decide (nm.length ≤ 16) := by rw [str_size]; by_cases h : nm.length ≤ 16 <;> simp [h] <;> omega
  have j2 : decide ((ps.length : Int) ≤ 16) = decide (ps.length ≤ 16) := by by_cases h : ps.length ≤ 16 <;> simp [h] <;> omega
  have j7 : decide ((is.length : Int) ≤ 16384) = decide (is.length ≤ 16384) := by by_cases h : is.length ≤ 16384 <;> simp [h] <;> omega
  have j5 : decide ((ps.length : Int) ≤ slots) = decide ((ps.length : Int) ≤ slots) := rfl
  have j6 : decide (slots ≤ 256) = decide (slots ≤ 256) := rfl
  generalize decide (nm.length ≤ 16) = x1 at j1 ⊢
  generalize decide (ps.length ≤ 16) = x2 at j2 ⊢
  generalize decide (is.length ≤ 16384) = x7 at j7 ⊢
  obtain ⟨x5, hx5⟩ : ∃ r, decide ((ps.length : Int) ≤ slots) = r := ⟨_, rfl⟩
  obtain ⟨x6, hx6⟩ : ∃ r, decide (slots ≤ 256) = r := ⟨_, rfl⟩
  obtain ⟨x4, hx4⟩ : ∃ r, decide (0 ≤ res ∧ res ≤ 3) = r := ⟨_, rfl⟩
  rw [hx5, hx6, hx4]
  clear j5 j6
  have j4 : if res = 0 then x4 = true else typedD res = x4 := by
    rw [← hx4]
    split
    · rename_i hh; subst hh; rfl
    · rename_i hh
      unfold typedD
      rw [decide_eq_decide]; omega
  clear hx4
  generalize ps.all typedD = x3 at KP ⊢
  generalize is.all opD = x8 at KI ⊢
  replace j1 := hid j1
  replace j2 := hid j2
  replace j4 := hid j4
  replace hx5 := hid hx5
  replace hx6 := hid hx6
  replace j7 := hid j7
  replace KP := hid KP
  replace KI := hid KI
  clear hp1 hp2 hi1 hi2
  go_enter Tryd.func40, Tryd.ntmps40
  go_upto_region 1 with fail
  change Row (w.alloc (.cells #[.string (str nm), .slice pA ps.length pc, .int .i64 res, .int .i64 slots, .slice iA is.length ic] 46)) _ _ at R1
  generalize w.alloc (.cells #[.string (str nm), .slice pA ps.length pc, .int .i64 res, .int .i64 slots, .slice iA is.length ic] 46) = w1 at b1 R1 ⊢
  have C0 := (R1.2 0 _ rfl).1
  have C1 := (R1.2 1 _ rfl).1
  have C2 := (R1.2 2 _ rfl).1
  have C3 := (R1.2 3 _ rfl).1
  have C4 := (R1.2 4 _ rfl).1
  replace R1 := hid R1
  replace j1 := j1.out
  cases x1
  case false =>
    go_wp2_with fail
    go_ret
    exact ⟨rfl, b1⟩
  replace j2 := j2.out
  cases x2
  case false =>
    go_wp2_with fail
    go_ret
    exact ⟨rfl, b1⟩
  go_wp2_with fail
  refine (KP.out w1 b1).mono ?_
  rintro e w2 ⟨rfl, hb⟩
  clear KP C0 C1 C2 C3 C4
  replace R1 := R1.out.below hb
  replace b1 := below_step b1 hb
  clear hb
  have C1 := (R1.2 1 _ rfl).1
  have C2 := (R1.2 2 _ rfl).1
  have C3 := (R1.2 3 _ rfl).1
  have C4 := (R1.2 4 _ rfl).1
  replace R1 := hid R1
  cases x3
  case false =>
    go_wp2_with fail
    go_ret
    exact ⟨rfl, b1⟩
  replace j4 := j4.out
  have KT := typed_any res
  by_cases hres : res = 0
  · rw [if_pos hres] at j4
    subst hres j4
    clear KT
    replace hx5 := hx5.out
    cases x5
    case false =>
      go_wp2_with fail
      go_ret
      exact ⟨rfl, b1⟩
    replace hx6 := hx6.out
    cases x6
    case false =>
      go_wp2_with fail
      go_ret
      exact ⟨rfl, b1⟩
    replace j7 := j7.out
    cases x7
    case false =>
      go_wp2_with fail
      go_ret
      exact ⟨rfl, b1⟩
    go_wp2_with fail
    refine (KI.out w2 b1).mono ?_
    rintro e w3 ⟨rfl, hb⟩
    go_wp2_with fail
    go_ret
    exact ⟨rfl, below_step b1 hb⟩
  · rw [if_neg hres] at j4
    rw [j4] at KT
    clear j4
    have hne : (res == 0) = false := by simpa using hres
    clear hres
    replace KT := hid KT
    go_wp2_with fail
    refine (KT.out w2).mono ?_
    rintro e w3 ⟨rfl, rfl⟩
    clear KT
    cases x4
    case false =>
      go_wp2_with fail
      go_ret
      exact ⟨rfl, b1⟩
    replace hx5 := hx5.out
    cases x5
    case false =>
      go_wp2_with fail
      go_ret
      exact ⟨rfl, b1⟩
    replace hx6 := hx6.out
    cases x6
    case false =>
      go_wp2_with fail
      go_ret
      exact ⟨rfl, b1⟩
    replace j7 := j7.out
    cases x7
    case false =>
      go_wp2_with fail
      go_ret
      exact ⟨rfl, b1⟩
    go_wp2_with fail
    refine (KI.out w2 b1).mono ?_
    rintro e w3 ⟨rfl, hb⟩
    go_wp2_with fail
    go_ret
    exact ⟨rfl, below_step b1 hb⟩
/-- a module in memory -/
structure Mo where
  cA : Option Addr
  cc : Nat
  cs : List Co
  tA : Option Addr
  tc : Nat
  ts : List SlR
deriving Inhabited
def Mo.data (m : Mo) : MoD := (m.cs.map Co.data, m.ts.map SlR.l)
structure MoRd (w : World) (m : Mo) : Prop where
  c : Els coEl w m.cA m.cs
  r : ∀ x ∈ m.cs, CoRd w x
  t : Els slEl w m.tA m.ts
  cc : m.cs.length ≤ m.cc ∧ m.cc ≤ maxLen
  tc : m.ts.length ≤ m.tc ∧ m.tc ≤ maxLen
theorem MoRd.below {w w' : World} {m : Mo} (h : MoRd w m) (hb : Below w.heap.size w w') : MoRd w' m := ⟨h.c.below hb, fun x hx => (h.r x hx).below hb, h.t.below hb, h.cc, h.tc⟩
theorem rightMo_of (m : Mo) : rightMo m.data = (decide (m.cs.length ≤ 64) && (decide (m.ts.length ≤ 1024) && (m.ts.all (fun s => decide (s.l.length ≤ 64)) && m.cs.all (fun c => rightC c.data)))) := by
  unfold rightMo Mo.data
  dsimp only
  rw [List.length_map, List.length_map, List.all_map, List.all_map, Bool.eq_iff_iff]
  simp only [Bool.and_eq_true, decide_eq_true_eq]
  constructor
  · rintro ⟨⟨⟨a, b⟩, c⟩, d⟩; exact ⟨a, b, c, d⟩
  · rintro ⟨a, b, c, d⟩; exact ⟨⟨⟨a, b⟩, c⟩, d⟩
theorem sl_le {w : World} {A : Option Addr} {xs : List SlR} (h : Els slEl w A xs) {x : SlR} (hx : x ∈ xs) : x.l.length ≤ maxLen := by
  have := h.2 x hx (x.val, x.l) (by simp [slEl])
  exact this.len
set_option maxRecDepth 100000 in
set_option maxHeartbeats 3200000 in
theorem right_any {w : World} {m : Mo} (h : MoRd w m) : Calls Tryd.prog 17 #[.agg #[.slice m.cA m.cs.length m.cc, .slice m.tA m.ts.length m.tc]] w fun e w' => e = .returned (.bool (rightMo m.data)) ∧ Below w.heap.size w w' := by
  have KT := fun W (hW : Below w.heap.size w W) => every_tx (c := m.tc) (h.t.below hW) (by have := h.tc; unfold maxLen at this; omega) (fun s => decide (s.l.length ≤ 64)) 38 (enters_of Tryd.func38 (by kernel_rfl) rfl) (fun V _ x hx => (short_any (A := x.A) (n := x.l.length) (c := x.c) (by have := sl_le h.t hx; unfold maxLen at this; omega)).mono fun e w' hh => ⟨hh.1, by rw [← hh.2]; exact Below.refl _ _⟩)
  have KC := fun W (hW : Below w.heap.size w W) => every_co (c := m.cc) (h.c.below hW) (by have := h.cc; unfold maxLen at this; omega) (fun c => rightC c.data) 40 (enters_of Tryd.func40 (by kernel_rfl) rfl) (fun V hV x hx => rcode_any ((h.r x hx).below (below_step hW hV)))
  rw [rightMo_of]
  have hcc := h.cc
  have htc := h.tc
  clear h
  obtain ⟨cA, cc, cs, tA, tc, ts⟩ := m
  dsimp only at KT KC hcc htc ⊢
  unfold maxLen at hcc htc
  have b1 := below_alloc w (.cells #[.slice cA cs.length cc, .slice tA ts.length tc] 25)
  have R1 := Row.new w [.slice cA cs.length cc, .slice tA ts.length tc] 25
  have j1 : decide ((cs.length : Int) ≤ 64) = decide (cs.length ≤ 64) := by by_cases h : cs.length ≤ 64 <;> simp [h] <;> omega
  have j2 : decide ((ts.length : Int) ≤ 1024) = decide (ts.length ≤ 1024) := by by_cases h : ts.length ≤ 1024 <;> simp [h] <;> omega
  generalize decide (cs.length ≤ 64) = x1 at j1 ⊢
  generalize decide (ts.length ≤ 1024) = x2 at j2 ⊢
  generalize (ts.all (fun s => decide (s.l.length ≤ 64))) = x3 at KT ⊢
  generalize (cs.all (fun c => rightC c.data)) = x4 at KC ⊢
  replace j2 := hid j2
  replace KT := hid KT
  replace KC := hid KC
  clear hcc htc
  go_enter Tryd.func17, Tryd.ntmps17
  go_upto_region 1 with fail
  change Row (w.alloc (.cells #[.slice cA cs.length cc, .slice tA ts.length tc] 25)) _ _ at R1
  generalize w.alloc (.cells #[.slice cA cs.length cc, .slice tA ts.length tc] 25) = w1 at b1 R1 ⊢
  have C0 := (R1.2 0 _ rfl).1
  have C1 := (R1.2 1 _ rfl).1
  replace R1 := hid R1
  cases x1
  case false =>
    go_wp2_with fail
    go_ret
    exact ⟨rfl, b1⟩
  replace j2 := j2.out
  cases x2
  case false =>
    go_wp2_with fail
    go_ret
    exact ⟨rfl, b1⟩
  go_wp2_with fail
  refine (KT.out w1 b1).mono ?_
  rintro e w2 ⟨rfl, hb⟩
  clear KT C0 C1
  replace R1 := R1.out.below hb
  replace b1 := below_step b1 hb
  clear hb
  have C0 := (R1.2 0 _ rfl).1
  replace R1 := hid R1
  cases x3
  case false =>
    go_wp2_with fail
    go_ret
    exact ⟨rfl, b1⟩
  go_wp2_with fail
  refine (KC.out w2 b1).mono ?_
  rintro e w3 ⟨rfl, hb⟩
  go_wp2_with fail
  go_ret
  exact ⟨rfl, below_step b1 hb⟩
end Go.Proofs.YtnkocbdbfkhgmaaDoor
