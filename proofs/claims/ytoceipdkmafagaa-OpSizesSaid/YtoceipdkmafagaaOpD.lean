import Derived.Test.YtoceipdkmafagaaCod
import Derived.Test.YtoceipdkmafagaaEls
/-! operations and replies as data: their bytes, their reading. Plain laws -/
namespace Go.Cov
open Go.RowKit
/-- a value: its type, its number, its text -/
abbrev VD := Int × Int × List UInt8
def plainV (v : VD) : Bool := decide ((v.1 = 1 ∨ v.1 = 2) ∧ v.2.2.length = 0 ∨ v.1 = 3 ∧ v.2.1 = 0 ∧ v.2.2.length ≤ 256 ∨ v.1 = 0 ∧ v.2.1 = 0 ∧ v.2.2.length = 0)
def putV (v : VD) : List UInt8 := be 8 v.1 ++ (be 8 v.2.1 ++ tx v.2.2)
def getV : List UInt8 → Int × Int → VD × Int × Int := sq (nx numR 0) (sq (nx numR 0) (nx bytesR []))
def okV (v : VD) : Prop := I64 v.1 ∧ I64 v.2.1 ∧ v.2.2.length ≤ 65536
theorem cod_val : Cod okV putV getV := cod_num.seq (cod_num.seq cod_text)
theorem plain_le {v : VD} (h : plainV v = true) : v.2.2.length ≤ 256 := by
  unfold plainV at h; have := of_decide_eq_true h; omega
/-- an operation: its kind, name, source, function, arguments, gas, key -/
abbrev OD := Int × List UInt8 × List UInt8 × List UInt8 × List VD × Int × List UInt8
def argOk (v : VD) : Bool := decide (v.1 ≠ 0) && plainV v
def rightO (o : OD) : Bool := decide (1 ≤ o.1 ∧ o.1 ≤ 3 ∧ o.2.1.length ≤ 16 ∧ o.2.2.2.1.length ≤ 16 ∧ o.2.2.1.length ≤ 4097 ∧ o.2.2.2.2.2.2.length ≤ 65 ∧ o.2.2.2.2.1.length ≤ 16) && o.2.2.2.2.1.all argOk
def putO (o : OD) : List UInt8 := be 8 o.1 ++ (tx o.2.1 ++ (tx o.2.2.1 ++ (tx o.2.2.2.1 ++ ((be 8 o.2.2.2.2.1.length ++ o.2.2.2.2.1.flatMap putV) ++ (be 8 o.2.2.2.2.2.1 ++ tx o.2.2.2.2.2.2)))))
def getO : List UInt8 → Int × Int → OD × Int × Int := sq (nx numR 0) (sq (nx bytesR []) (sq (nx bytesR []) (sq (nx bytesR []) (sq (cnt 16 151 getV) (sq (nx numR 0) (nx bytesR []))))))
/-- no operation -/
def zeroO : OD := (0, [], [], [], [], 0, [])
def okO (o : OD) : Prop := I64 o.1 ∧ o.2.1.length ≤ 65536 ∧ o.2.2.1.length ≤ 65536 ∧ o.2.2.2.1.length ≤ 65536 ∧ (o.2.2.2.2.1.length ≤ 16 ∧ ∀ x ∈ o.2.2.2.2.1, okV x) ∧ I64 o.2.2.2.2.2.1 ∧ o.2.2.2.2.2.2.length ≤ 65536
theorem cod_op : Cod okO putO getO := cod_num.seq (cod_text.seq (cod_text.seq (cod_text.seq ((cod_val.count 16 151 (by decide) (by decide)).seq (cod_num.seq cod_text)))))
/-- are an operation's numbers ints? -/
def intO (o : OD) : Prop := I64 o.2.2.2.2.2.1 ∧ ∀ x ∈ o.2.2.2.2.1, I64 x.2.1
theorem okO_of {o : OD} (h : rightO o = true) (hi : intO o) : okO o := by
  unfold rightO at h
  rw [Bool.and_eq_true] at h
  obtain ⟨h1, h2⟩ := h
  have h1 := of_decide_eq_true h1
  refine ⟨by unfold I64; omega, by omega, by omega, by omega, ⟨by omega, fun x hx => ?_⟩, hi.1, by omega⟩
  have h3 := List.all_eq_true.1 h2 x hx
  unfold argOk at h3
  rw [Bool.and_eq_true] at h3
  have h4 := plain_le h3.2
  have h5 := of_decide_eq_true h3.2
  exact ⟨by unfold I64; omega, hi.2 x hx, by omega⟩
def readO (l : List UInt8) : OD × Int := whole rightO 151 zeroO getO l
def bytesO (o : OD) : List UInt8 × Int := if rightO o = true then (putO o, 0) else ([], 151)
theorem op_back {o : OD} (h : rightO o = true) (hi : intO o) : readO (putO o) = (o, 0) := whole_back cod_op h (okO_of h hi)
theorem op_kept {o : OD} {l : List UInt8} (h : readO l = (o, 0)) : rightO o = true ∧ putO o = l := ⟨(whole_kept cod_op (by decide) h).1, (whole_kept cod_op (by decide) h).2.2⟩
theorem op_cut {o : OD} {c : Nat} (h : rightO o = true) (hi : intO o) (hc : c < (putO o).length) : readO ((putO o).take c) = (zeroO, 11) := whole_cut cod_op (okO_of h hi) hc
/-- a reply: its error, place, value, trap, gas, whether it was found, its text -/
abbrev RD := Int × Int × VD × Int × Int × Bool × List UInt8
def rightR (r : RD) : Bool := plainV r.2.2.1 && decide (r.2.2.2.2.2.2.length ≤ 65536)
def putR (r : RD) : List UInt8 := be 8 r.1 ++ (be 8 r.2.1 ++ (putV r.2.2.1 ++ (be 8 r.2.2.2.1 ++ (be 8 r.2.2.2.2.1 ++ ([tb r.2.2.2.2.2.1] ++ tx r.2.2.2.2.2.2)))))
def getR2 : List UInt8 → Int × Int → RD × Int × Int := sq (nx numR 0) (sq (nx numR 0) (sq getV (sq (nx numR 0) (sq (nx numR 0) (sq (nx boolR false) (nx bytesR []))))))
def zeroR : RD := (0, 0, (0, 0, []), 0, 0, false, [])
def okR (r : RD) : Prop := I64 r.1 ∧ I64 r.2.1 ∧ okV r.2.2.1 ∧ I64 r.2.2.2.1 ∧ I64 r.2.2.2.2.1 ∧ True ∧ r.2.2.2.2.2.2.length ≤ 65536
theorem cod_reply : Cod okR putR getR2 := cod_num.seq (cod_num.seq (cod_val.seq (cod_num.seq (cod_num.seq (cod_bool.seq cod_text)))))
/-- are a reply's numbers ints? -/
def intR (r : RD) : Prop := I64 r.1 ∧ I64 r.2.1 ∧ I64 r.2.2.1.2.1 ∧ I64 r.2.2.2.1 ∧ I64 r.2.2.2.2.1
theorem okR_of {r : RD} (h : rightR r = true) (hi : intR r) : okR r := by
  unfold rightR at h
  rw [Bool.and_eq_true] at h
  have h1 := plain_le h.1
  have h2 := of_decide_eq_true h.1
  have h3 := of_decide_eq_true h.2
  obtain ⟨i1, i2, i3, i4, i5⟩ := hi
  exact ⟨i1, i2, ⟨by unfold I64; omega, i3, by omega⟩, i4, i5, trivial, h3⟩
def readR (l : List UInt8) : RD × Int := whole rightR 151 zeroR getR2 l
def bytesRp (r : RD) : List UInt8 × Int := if rightR r = true then (putR r, 0) else ([], 151)
theorem reply_back {r : RD} (h : rightR r = true) (hi : intR r) : readR (putR r) = (r, 0) := whole_back cod_reply h (okR_of h hi)
theorem reply_kept {r : RD} {l : List UInt8} (h : readR l = (r, 0)) : rightR r = true ∧ putR r = l := ⟨(whole_kept cod_reply (by decide) h).1, (whole_kept cod_reply (by decide) h).2.2⟩
theorem reply_cut {r : RD} {c : Nat} (h : rightR r = true) (hi : intR r) (hc : c < (putR r).length) : readR ((putR r).take c) = (zeroR, 11) := whole_cut cod_reply (okR_of h hi) hc
theorem putV_len (v : VD) : (putV v).length = 20 + v.2.2.length := by simp [putV, be_length, tx_length]; omega
theorem putO_len (o : OD) : (putO o).length = 40 + (o.2.1.length + o.2.2.1.length + o.2.2.2.1.length + o.2.2.2.2.2.2.length) + (o.2.2.2.2.1.flatMap putV).length := by
  simp only [putO, List.length_append, be_length, tx_length]; omega
theorem putR_len (r : RD) : (putR r).length = 57 + r.2.2.1.2.2.length + r.2.2.2.2.2.2.length := by
  simp only [putR, List.length_append, be_length, tx_length, putV_len, List.length_cons, List.length_nil]; omega
end Go.Cov
namespace Go.Cov
/-- the error at the end -/
def endR (n : Nat) (s : Int × Int) (is : Bool) : Int := if s.2 = 0 then (if s.1 = n ∧ is = true then 0 else 151) else s.2
theorem whole_end {α : Type} (right : α → Bool) (d : α) (get : List UInt8 → Int × Int → α × Int × Int) (l : List UInt8) {a : α} {s : Int × Int} (h : get l (0, 0) = (a, s)) : whole right 151 d get l = (if endR l.length s (right a) = 0 then a else d, endR l.length s (right a)) := by
  unfold whole endR
  rw [h]
  dsimp only
  by_cases h1 : s.2 = 0
  · by_cases h2 : s.1 = l.length ∧ right a = true
    · rw [if_pos h1, if_pos h2, if_pos h1, if_pos h2, if_pos rfl]
    · rw [if_pos h1, if_neg h2, if_pos h1, if_neg h2, if_neg (by decide)]
  · rw [if_neg h1, if_neg h1, if_neg h1]
end Go.Cov
namespace Go.Cov
theorem op_more {o : OD} (h : rightO o = true) (hi : intO o) (x : UInt8) : readO (putO o ++ [x]) = (zeroO, 151) := by
  have hB := cod_op.back [] o [x] (okO_of h hi)
  simp only [List.nil_append, List.length_nil, Int.natCast_zero, Int.zero_add] at hB
  unfold readO whole
  rw [hB]
  dsimp only
  rw [if_pos rfl, if_neg (fun hh => by have h1 := hh.1; rw [List.length_append, List.length_singleton] at h1; omega)]
theorem bytesO_ok {o : OD} (h : rightO o = true) : bytesO o = (putO o, 0) := by unfold bytesO; rw [if_pos h]
theorem bytesO_no {o : OD} (h : rightO o = false) : bytesO o = ([], 151) := by unfold bytesO; rw [if_neg (by rw [h]; decide)]
theorem bytesRp_ok {o : RD} (h : rightR o = true) : bytesRp o = (putR o, 0) := by unfold bytesRp; rw [if_pos h]
theorem bytesRp_no {o : RD} (h : rightR o = false) : bytesRp o = ([], 151) := by unfold bytesRp; rw [if_neg (by rw [h]; decide)]
def lookO : OD := (3, [], [], [], [], 0, [])
theorem look_right : rightO lookO = true := by decide
theorem look_int : intO lookO := ⟨by unfold I64 lookO; decide, fun x hx => by cases hx⟩
theorem look_len : (putO lookO).length = 40 := by rw [putO_len]; rfl
theorem zeroR_right : rightR zeroR = true := by decide
theorem zeroR_len : (putR zeroR).length = 57 := by rw [putR_len]; rfl
end Go.Cov
namespace Go.Cov
/-- alike -/
def sameR (r s : RD) : Bool := (decide (r.2.2.1 = s.2.2.1) && decide (r.2.2.2.1 = s.2.2.2.1) && decide (r.2.2.2.2.1 = s.2.2.2.2.1)) && decide (r.1 = s.1) && decide (r.2.1 = s.2.1) && decide (r.2.2.2.2.2.1 = s.2.2.2.2.2.1) && decide (r.2.2.2.2.2.2 = s.2.2.2.2.2.2)
theorem sameR_iff {r s : RD} : sameR r s = true ↔ r = s := by
  unfold sameR
  simp only [Bool.and_eq_true, decide_eq_true_eq]
  constructor
  · rintro ⟨⟨⟨⟨⟨⟨h3, h4⟩, h5⟩, h1⟩, h2⟩, h6⟩, h7⟩
    exact Prod.ext h1 (Prod.ext h2 (Prod.ext h3 (Prod.ext h4 (Prod.ext h5 (Prod.ext h6 h7)))))
  · rintro rfl; exact ⟨⟨⟨⟨⟨⟨rfl, rfl⟩, rfl⟩, rfl⟩, rfl⟩, rfl⟩, rfl⟩
def sameO (o p : OD) : Bool := decide (o.1 = p.1) && decide (o.2.1 = p.2.1) && decide (o.2.2.1 = p.2.2.1) && decide (o.2.2.2.1 = p.2.2.2.1) && decide (o.2.2.2.2.2.1 = p.2.2.2.2.2.1) && decide (o.2.2.2.2.2.2 = p.2.2.2.2.2.2) && decide (o.2.2.2.2.1 = p.2.2.2.2.1)
theorem sameO_iff {o p : OD} : sameO o p = true ↔ o = p := by
  unfold sameO
  simp only [Bool.and_eq_true, decide_eq_true_eq]
  constructor
  · rintro ⟨⟨⟨⟨⟨⟨h1, h2⟩, h3⟩, h4⟩, h6⟩, h7⟩, h5⟩
    exact Prod.ext h1 (Prod.ext h2 (Prod.ext h3 (Prod.ext h4 (Prod.ext h5 (Prod.ext h6 h7)))))
  · rintro rfl; exact ⟨⟨⟨⟨⟨⟨rfl, rfl⟩, rfl⟩, rfl⟩, rfl⟩, rfl⟩, rfl⟩
end Go.Cov
