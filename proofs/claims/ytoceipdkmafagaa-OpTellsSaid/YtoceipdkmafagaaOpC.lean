import Derived.Test.YtoceipdkmafagaaOpB
/-! op: may it be an operation -/
namespace Go.Proofs.Ytoceipdkmafagaa
open Go.RowKit Go.Cov
theorem size_str (l : List UInt8) : (str l).size = l.length := by simp [str, ByteArray.size]
/-- an operation in memory -/
structure Oa where
  k : Int
  n : List UInt8
  sA : Option Addr
  sc : Nat
  s : List UInt8
  f : List UInt8
  aA : Option Addr
  ac : Nat
  a : List En
  g : Int
  kA : Option Addr
  kc : Nat
  key : List UInt8
def Oa.cells (o : Oa) : List Value := [.int .i64 o.k, .string (str o.n), .slice o.sA o.s.length o.sc, .string (str o.f), .slice o.aA o.a.length o.ac, .int .i64 o.g, .slice o.kA o.key.length o.kc]
def Oa.val (o : Oa) : Value := .agg #[.int .i64 o.k, .string (str o.n), .slice o.sA o.s.length o.sc, .string (str o.f), .slice o.aA o.a.length o.ac, .int .i64 o.g, .slice o.kA o.key.length o.kc]
def Oa.data (o : Oa) : OD := (o.k, o.n, o.s, o.f, o.a.map En.data, o.g, o.key)
/-- what it leads to can be read -/
structure OaRd (w : World) (o : Oa) : Prop where
  s : Rd w o.sA (o.s.map byt)
  a : Els enEl w o.aA o.a
  key : Rd w o.kA (o.key.map byt)
  am : o.a.length ≤ maxLen
theorem OaRd.below {w w' : World} {o : Oa} (h : OaRd w o) (hb : Below w.heap.size w w') : OaRd w' o := ⟨h.s.below hb, h.a.below hb, h.key.below hb, h.am⟩
def rightN (k : Int) (n s f a key : Nat) : Bool := decide (1 ≤ k ∧ k ≤ 3 ∧ n ≤ 16 ∧ f ≤ 16 ∧ s ≤ 4097 ∧ key ≤ 65 ∧ a ≤ 16)
theorem rightO_of (o : Oa) : rightO o.data = (rightN o.k o.n.length o.s.length o.f.length o.a.length o.key.length && (o.a.map En.data).all argOk) := by
  unfold rightO rightN Oa.data
  simp only [List.length_map]

set_option maxRecDepth 100000 in
set_option maxHeartbeats 6400000 in
theorem right_any (o : Oa) {w : World} (h : OaRd w o) : Calls Try.prog 13 #[o.val] w fun e w' => e = .returned (.bool (rightO o.data)) ∧ Below w.heap.size w w' := by
  have b0 := below_alloc w (.cells o.cells.toArray 25)
  have h1 := h.below b0
  rw [rightO_of]
  have s1 := size_str o.n
  have s2 := size_str o.f
  obtain ⟨mx, hmx⟩ : ∃ mx, mx = max o.n.length o.f.length := ⟨_, rfl⟩
  have m1 : (if (o.n.length : Int) < o.f.length then (o.f.length : Int) else o.n.length) = mx := by split <;> omega
  have m2 : (if (o.f.length : Int) < o.n.length then (o.n.length : Int) else o.f.length) = mx := by split <;> omega
  have hmN : mx ≤ 16 ↔ o.n.length ≤ 16 ∧ o.f.length ≤ 16 := by omega
  clear hmx
  unfold Oa.val Oa.cells at *
  by_cases c_k0 : 1 ≤ o.k
  case neg =>
    have j_k0 : decide ((1 : Int) ≤ o.k) = false := decide_eq_false (by omega)
    have e : rightN o.k o.n.length o.s.length o.f.length o.a.length o.key.length = false := decide_eq_false (by omega)
    rw [e]
    clear e hmN
    go_enter Try.func13, Try.ntmps13
    go_wp2_with fail
    all_goals (go_ret; exact ⟨rfl, b0⟩)
  have j_k0 : decide ((1 : Int) ≤ o.k) = true := decide_eq_true (by omega)
  by_cases c_k1 : o.k ≤ 3
  case neg =>
    have j_k1 : decide (o.k ≤ (3 : Int)) = false := decide_eq_false (by omega)
    have e : rightN o.k o.n.length o.s.length o.f.length o.a.length o.key.length = false := decide_eq_false (by omega)
    rw [e]
    clear e hmN
    go_enter Try.func13, Try.ntmps13
    go_wp2_with fail
    all_goals (go_ret; exact ⟨rfl, b0⟩)
  have j_k1 : decide (o.k ≤ (3 : Int)) = true := decide_eq_true (by omega)
  by_cases c_nf : mx ≤ 16
  case neg =>
    have j_nf : decide ((mx : Int) ≤ 16) = false := decide_eq_false (by omega)
    have e : rightN o.k o.n.length o.s.length o.f.length o.a.length o.key.length = false := decide_eq_false (by omega)
    rw [e]
    clear e hmN
    go_enter Try.func13, Try.ntmps13
    go_wp2_with fail
    all_goals (go_ret; exact ⟨rfl, b0⟩)
  have j_nf : decide ((mx : Int) ≤ 16) = true := decide_eq_true (by omega)
  by_cases c_s : o.s.length ≤ 4097
  case neg =>
    have j_s : decide ((o.s.length : Int) ≤ 4097) = false := decide_eq_false (by omega)
    have e : rightN o.k o.n.length o.s.length o.f.length o.a.length o.key.length = false := decide_eq_false (by omega)
    rw [e]
    clear e hmN
    go_enter Try.func13, Try.ntmps13
    go_wp2_with fail
    all_goals (go_ret; exact ⟨rfl, b0⟩)
  have j_s : decide ((o.s.length : Int) ≤ 4097) = true := decide_eq_true (by omega)
  by_cases c_key : o.key.length ≤ 65
  case neg =>
    have j_key : decide ((o.key.length : Int) ≤ 65) = false := decide_eq_false (by omega)
    have e : rightN o.k o.n.length o.s.length o.f.length o.a.length o.key.length = false := decide_eq_false (by omega)
    rw [e]
    clear e hmN
    go_enter Try.func13, Try.ntmps13
    go_wp2_with fail
    all_goals (go_ret; exact ⟨rfl, b0⟩)
  have j_key : decide ((o.key.length : Int) ≤ 65) = true := decide_eq_true (by omega)
  by_cases c_a : o.a.length ≤ 16
  case neg =>
    have j_a : decide ((o.a.length : Int) ≤ 16) = false := decide_eq_false (by omega)
    have e : rightN o.k o.n.length o.s.length o.f.length o.a.length o.key.length = false := decide_eq_false (by omega)
    rw [e]
    clear e hmN
    go_enter Try.func13, Try.ntmps13
    go_wp2_with fail
    all_goals (go_ret; exact ⟨rfl, b0⟩)
  have j_a : decide ((o.a.length : Int) ≤ 16) = true := decide_eq_true (by omega)
  have e : rightN o.k o.n.length o.s.length o.f.length o.a.length o.key.length = true := decide_eq_true (by omega)
  rw [e]
  clear e hmN
  go_enter Try.func13, Try.ntmps13
  go_wp2_with fail
  all_goals
    refine (contains_any h1.a h.am).mono ?_
    rintro e w2 ⟨rfl, hb2⟩
    go_wp2_with fail
    go_ret
    exact ⟨by simp, below_step b0 hb2⟩

end Go.Proofs.Ytoceipdkmafagaa