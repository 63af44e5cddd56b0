import Derived.Test.YtelmndpelgbboaaMby
import Derived.Test.YtelmndpelgbboaaPlain1
namespace Go.Proofs.Ytelmndpelgbboaa
open Go.RowKit Go.Conc Go.Cov
/-- A CLIENT, as data -/
structure Cs where
  number : Int
  count : Int
  f : Int
  again : Int
  bA : Option Addr
  bc : Nat
  body : List UInt8
  waits : Bool
  ticks : Int
  view : Int
  room : Int
  xb : Nat
  xc : Nat
  ans : List An
def Cs.cells (s : Cs) : List Value := [.int .i64 s.number, .int .i64 s.count, .int .i64 s.f, .int .i64 s.again, .slice s.bA s.body.length s.bc, .bool s.waits, .int .i64 s.ticks, .int .i64 s.view, .int .i64 s.room, .pointer (some ⟨s.xb, 0, none⟩)]
def Apa (cb xc : Nat) (A : Option Addr) : Prop := ∀ ad, A = some ad → ad.block ≠ cb ∧ ad.block ≠ xc
/-- a client at cb, all of whose memory lies from base on -/
structure Cl (w : World) (base cb : Nat) (s : Cs) : Prop where
  row : Row w cb s.cells
  box : BoxA w s.xb s.xc s.room.toNat s.ans
  lo : base ≤ cb ∧ base ≤ s.xb ∧ base ≤ s.xc
  ne : cb ≠ s.xb ∧ cb ≠ s.xc
  body : Rd w s.bA (s.body.map byt) ∧ Apa cb s.xc s.bA
  ans : ∀ a ∈ s.ans, Rd w a.V (a.l.map byt) ∧ Apa cb s.xc a.V
theorem Cl.gro {w w' : World} {base cb : Nat} {s : Cs} (h : Cl w base cb s) (hb : Below w.heap.size w w') : Cl w' base cb s :=
  ⟨h.row.below hb, h.box.below hb, h.lo, h.ne, ⟨h.body.1.below hb, h.body.2⟩, fun a ha => ⟨(h.ans a ha).1.below hb, (h.ans a ha).2⟩⟩
theorem Cl.lt {w : World} {base cb : Nat} {s : Cs} (h : Cl w base cb s) : cb < w.heap.size ∧ s.xb < w.heap.size ∧ s.xc < w.heap.size := ⟨h.row.1, h.box.lt.1, h.box.lt.2⟩
/-- one cell of its own turned -/
theorem Cl.turn {w : World} {base cb : Nat} {s : Cs} (h : Cl w base cb s) (i : Nat) (hi : i < 10) (x : Value) (s' : Cs) (hc : s'.cells = s.cells.set i x) (hx : s'.xb = s.xb ∧ s'.xc = s.xc ∧ s'.room = s.room ∧ s'.ans = s.ans) (hb : Rd w s'.bA (s'.body.map byt) ∧ Apa cb s.xc s'.bA) :
    Cl (w.setCell ⟨cb, i, none⟩ x) base cb s' ∧ Gro cb s.xc w (w.setCell ⟨cb, i, none⟩ x) := by
  have hg : Gro cb s.xc w (w.setCell ⟨cb, i, none⟩ x) := Gro.set cb s.xc i w x
  obtain ⟨h1, h2, h3, h4⟩ := hx
  refine ⟨⟨by rw [hc]; exact h.row.set i (by simpa [Cs.cells] using hi) x, ?_, by rw [h1, h2]; exact h.lo, by rw [h1, h2]; exact h.ne, ⟨hg.rd hb.1 hb.2, by rw [h2]; exact hb.2⟩, ?_⟩, hg⟩
  · rw [h1, h2, h3, h4]
    exact h.box.kept (row := some cb) ⟨rfl, rfl, rfl, by simp, fun k _ hk => by
      simp only [World.setCell, Array.getElem?_modify]
      rw [if_neg (fun e => hk (by rw [e]))]⟩ (fun e => h.ne.1 (Option.some.inj e).symm) (fun e => h.ne.2 (Option.some.inj e).symm)
  · rw [h4, h2]
    exact fun a ha => ⟨hg.rd (h.ans a ha).1 (h.ans a ha).2, (h.ans a ha).2⟩
def okC (f number again room : Int) : Prop := 0 ≤ f ∧ f ≤ 3 ∧ 1 ≤ number ∧ 1 ≤ again ∧ again ≤ 1000 ∧ 1 ≤ room ∧ room ≤ 1024
def new0 (f number again room : Int) (xb xc : Nat) : Cs := ⟨number, 0, f, again, none, 0, [], false, 0, 0, room, xb, xc, []⟩
set_option maxHeartbeats 800000 in
theorem new_cl {f number again room : Int} (h : okC f number again room) (w : World) :
    Calls Try.prog 8 #[.int .i64 f, .int .i64 number, .int .i64 again, .int .i64 room] w fun e w' => ∃ cb xb xc, e = .returned (.pointer (some ⟨cb, 0, none⟩)) ∧ Cl w' w.heap.size cb (new0 f number again room xb xc) ∧ Below w.heap.size w w' := by
  obtain ⟨h1, h2, h3, h4, h5, h6, h7⟩ := h
  have j1 : ¬ f < 0 := by omega
  have j2 : ¬ 3 < f := by omega
  have j3 : ¬ (if again < number then again else number) < 1 := by split <;> omega
  have j4 : ¬ 1000 < again := by omega
  go_enter Try.func8, Try.ntmps8
  go_wp2_with fail
  refine (new_ok room h6 h7 w).mono ?_
  rintro e w1 ⟨rfl, hb1, hg1⟩
  have b1 := below_alloc w1 (.cells (new0 f number again room (w.heap.size + 1) w.heap.size).cells.toArray 63)
  have hlt := hb1.lt
  go_wp2_with fail
  all_goals
    go_ret
    exact ⟨w1.heap.size, rfl, ⟨w.heap.size + 1, w.heap.size, ⟨Row.new w1 _ _, hb1.below b1, ⟨hg1.size, Nat.le_succ _, Nat.le_refl _⟩, ⟨Nat.ne_of_gt hlt.1, Nat.ne_of_gt hlt.2⟩, ⟨Rd.nil _ _, fun ad h => by cases h⟩, fun a ha => by cases ha⟩⟩, below_step hg1 b1⟩
set_option maxHeartbeats 800000 in
theorem new_cl_no {f number again room : Int} (h : ¬ okC f number again room) (w : World) :
    Calls Try.prog 8 #[.int .i64 f, .int .i64 number, .int .i64 again, .int .i64 room] w fun e w' => e = .returned (.pointer none) ∧ Below w.heap.size w w' := by
  have H := hid (show f < 0 ∨ (¬ f < 0 ∧ 3 < f) ∨ (¬ f < 0 ∧ ¬ 3 < f ∧ (if again < number then again else number) < 1) ∨ (¬ f < 0 ∧ ¬ 3 < f ∧ ¬ (if again < number then again else number) < 1 ∧ 1000 < again) ∨ (¬ f < 0 ∧ ¬ 3 < f ∧ ¬ (if again < number then again else number) < 1 ∧ ¬ 1000 < again ∧ (room < 1 ∨ 1024 < room)) by
    unfold okC at h
    split <;> omega)
  clear h
  by_cases hr : 1 ≤ room ∧ room ≤ 1024
  · rcases H.out with j1 | ⟨j1, j2⟩ | ⟨j1, j2, j3⟩ | ⟨j1, j2, j3, j4⟩ | ⟨_, _, _, _, j5⟩
    case inr.inr.inr.inr => omega
    all_goals
      go_enter Try.func8, Try.ntmps8
      go_wp2_with fail
      refine (new_ok room hr.1 hr.2 w).mono ?_
      rintro e w1 ⟨rfl, hb1, hg1⟩
      go_wp2_with fail
      all_goals
        go_ret
        exact ⟨rfl, hg1⟩
  · rcases H.out with j1 | ⟨j1, j2⟩ | ⟨j1, j2, j3⟩ | ⟨j1, j2, j3, j4⟩ | ⟨j1, j2, j3, j4, _⟩
    all_goals
      go_enter Try.func8, Try.ntmps8
      go_wp2_with fail
      refine (new_no room (by omega) w).mono ?_
      rintro e w1 ⟨rfl, rfl⟩
      go_wp2_with fail
      all_goals
        go_ret
        exact ⟨rfl, Below.refl _ _⟩
theorem waits_cl {w : World} {base cb : Nat} {s : Cs} (h : Cl w base cb s) : Calls Try.prog 11 #[.pointer (some ⟨cb, 0, none⟩)] w fun e w' => e = .returned (.bool s.waits) ∧ w' = w := by
  have c5 := (h.row.2 5 _ rfl).1
  go_enter Try.func11, Try.ntmps11
  go_wp2_with fail
  go_ret
  exact ⟨rfl, rfl⟩
end Go.Proofs.Ytelmndpelgbboaa
