import Derived.Test.YtoceipdkmafagaaGv
/-! what the functions of 'wire' answer, in plain lists and numbers -/
namespace Go.Cov
open Go.RowKit
/-- what 'get' answers -/
def getR (l : List UInt8) (a : Int) (s : Nat) : Int × Int × Int :=
  if a < 0 ∨ (l.length : Int) < a then (0, 0, 1) else if (l.length : Int) - a < s then (0, 0, 11) else (gv ((l.drop a.toNat).take s), a + s, 0)
/-- what 'Bool' makes of what 'get' answers -/
def boolOf (g : Int × Int × Int) : Bool × Int × Int :=
  if g.2.2 = 0 then (if 1 < g.1 then (false, 0, 12) else (g.1 == 1, g.2.1, 0)) else (false, 0, g.2.2)
/-- what 'Bool' answers -/
def boolR (l : List UInt8) (a : Int) : Bool × Int × Int := boolOf (getR l a 1)
/-- a truth's byte -/
def tb (b : Bool) : UInt8 := if b then 1 else 0
theorem be_tb (b : Bool) : be 1 (if b then 1 else 0) = [tb b] := by cases b <;> rfl
theorem gv_one (x : UInt8) : gv [x] = (x.toNat : Int) := by
  have := x.toNat_lt
  have e : nat [x] = x.toNat := by simp [nat]
  rw [gv_nat, e]
  simp only [wrap64]
  omega
theorem be_get (s : Nat) (n : Int) (k : Nat) (h : k < s) : (be s n).take (k + 1) = (be s n).take k ++ [bt n (s - 1 - k)] := by
  have hk : k < (be s n).length := by rw [be_length]; exact h
  rw [List.take_succ_eq_append_getElem hk]
  have := be_at s n (s - 1 - k) (by omega)
  rw [show s - 1 - (s - 1 - k) = k by omega, List.getElem?_eq_getElem hk] at this
  injection this with this
  rw [this]
/-- what 'sized' makes of what 'get' answers -/
def sizeOf' (g : Int × Int × Int) (most : Nat) : Int × Int × Int := if g.2.2 = 0 ∧ (most : Int) < g.1 then (0, 0, 2) else g
/-- what 'sized' answers -/
def sizeR (l : List UInt8) (a : Int) (most : Nat) : Int × Int × Int := sizeOf' (getR l a 4) most
/-- a text's bytes -/
def tx (s : List UInt8) : List UInt8 := be 4 s.length ++ s
/-- what 'Bytes' answers -/
def bytesR (l : List UInt8) (a : Int) : List UInt8 × Int × Int :=
  if (sizeR l a 65536).2.2 = 0 then
    (if (l.length : Int) - (sizeR l a 65536).2.1 < (sizeR l a 65536).1 then ([], 0, 11) else
      ((l.drop (sizeR l a 65536).2.1.toNat).take (sizeR l a 65536).1.toNat, (sizeR l a 65536).2.1 + (sizeR l a 65536).1, 0))
  else ([], 0, (sizeR l a 65536).2.2)
/-- ahead of the rest of a row -/
def preRow (acc : List (List UInt8)) (r : List (List UInt8) × Int × Int) : List (List UInt8) × Int × Int := if r.2.2 = 0 then (acc ++ r.1, r.2.1, 0) else ([], 0, r.2.2)
/-- so many texts that stand at a place -/
def rowGo (l : List UInt8) : Nat → Int → List (List UInt8) × Int × Int
  | 0, p => ([], p, 0)
  | n + 1, p => if (bytesR l p).2.2 = 0 then preRow [(bytesR l p).1] (rowGo l n (bytesR l p).2.1) else ([], 0, (bytesR l p).2.2)
/-- what 'Row' answers -/
def rowR (l : List UInt8) (a : Int) : List (List UInt8) × Int × Int :=
  if (sizeR l a 1024).2.2 = 0 then rowGo l (sizeR l a 1024).1.toNat (sizeR l a 1024).2.1 else ([], 0, (sizeR l a 1024).2.2)
/-- is no text of a row too long? -/
def fits (ls : List (List UInt8)) : Bool := ls.all fun s => decide (s.length ≤ 65536)
/-- a row's bytes -/
def rw' (ls : List (List UInt8)) : List UInt8 := be 4 ls.length ++ ls.flatMap tx
theorem tx_length (s : List UInt8) : (tx s).length = 4 + s.length := by simp [tx, be_length]
theorem getR_cases (l : List UInt8) (a : Int) (s : Nat) :
    (a < 0 ∨ (l.length : Int) < a) ∧ getR l a s = (0, 0, 1) ∨ (∃ k : Nat, a = k ∧ k ≤ l.length ∧ l.length < k + s) ∧ getR l a s = (0, 0, 11) ∨
    ∃ k : Nat, a = k ∧ k + s ≤ l.length ∧ getR l a s = (gv ((l.drop k).take s), (k : Int) + s, 0) := by
  by_cases h1 : a < 0 ∨ (l.length : Int) < a
  · left; exact ⟨h1, by rw [getR, if_pos h1]⟩
  · right
    obtain ⟨k, rfl⟩ : ∃ k : Nat, a = k := ⟨a.toNat, by omega⟩
    by_cases h2 : (l.length : Int) - k < s
    · left; exact ⟨⟨k, rfl, by omega, by omega⟩, by rw [getR, if_neg h1, if_pos h2]⟩
    · right; exact ⟨k, rfl, by omega, by rw [getR, if_neg h1, if_neg h2]; rfl⟩
theorem gv4 (l : List UInt8) (h : l.length ≤ 4) : gv l = (nat l : Int) ∧ nat l < 4294967296 := by
  have h1 := nat_lt l
  have h2 : 256 ^ l.length ≤ 256 ^ 4 := Nat.pow_le_pow_right (by decide) h
  have h3 : nat l < 4294967296 := by
    have : (256 : Nat) ^ 4 = 4294967296 := by decide
    omega
  refine ⟨?_, h3⟩
  rw [gv_nat]
  generalize nat l = m at h3
  simp only [wrap64]
  omega
theorem sizeR_cases (l : List UInt8) (a : Int) (most : Nat) :
    (∃ e : Int, (e = 1 ∨ e = 2 ∨ e = 11) ∧ sizeR l a most = (0, 0, e)) ∨
    ∃ k : Nat, a = k ∧ k + 4 ≤ l.length ∧ nat ((l.drop k).take 4) ≤ most ∧ sizeR l a most = ((nat ((l.drop k).take 4) : Int), (k : Int) + 4, 0) := by
  unfold sizeR
  rcases getR_cases l a 4 with ⟨_, h⟩ | ⟨_, h⟩ | ⟨k, hk, hl, h⟩
  · left; exact ⟨1, .inl rfl, by rw [h, sizeOf', if_neg (by simp)]⟩
  · left; exact ⟨11, .inr (.inr rfl), by rw [h, sizeOf', if_neg (by simp)]⟩
  · have hg := gv4 ((l.drop k).take 4) (by simp; omega)
    rw [h, hg.1]
    by_cases hm : (most : Int) < (nat ((l.drop k).take 4) : Int)
    · left; exact ⟨2, .inr (.inl rfl), by rw [sizeOf', if_pos ⟨rfl, hm⟩]⟩
    · right; exact ⟨k, hk, hl, by omega, by rw [sizeOf', if_neg (fun hh => hm hh.2)]; rfl⟩
theorem bytesR_cases (l : List UInt8) (a : Int) :
    (∃ e : Int, (e = 1 ∨ e = 2 ∨ e = 11) ∧ bytesR l a = ([], 0, e)) ∨
    ∃ k n : Nat, a = k ∧ n = nat ((l.drop k).take 4) ∧ n ≤ 65536 ∧ k + 4 + n ≤ l.length ∧ sizeR l a 65536 = ((n : Int), (k : Int) + 4, 0) ∧ bytesR l a = ((l.drop (k + 4)).take n, (k : Int) + 4 + n, 0) := by
  rcases sizeR_cases l a 65536 with ⟨e, he, h⟩ | ⟨k, hk, hl, hm, h⟩
  · left; refine ⟨e, he, ?_⟩
    rw [bytesR, h, if_neg (by rcases he with rfl | rfl | rfl <;> decide)]
  · generalize hn : nat ((l.drop k).take 4) = n at hm h
    by_cases h2 : (l.length : Int) - (k + 4) < n
    · left; exact ⟨11, .inr (.inr rfl), by rw [bytesR, h, if_pos rfl, if_pos h2]⟩
    · right; refine ⟨k, n, hk, hn.symm, hm, by omega, h, ?_⟩
      rw [bytesR, h, if_pos rfl, if_neg h2]
      rw [show ((k : Int) + 4).toNat = k + 4 by omega]
      rfl
theorem preRow_ok (acc : List (List UInt8)) (r : List (List UInt8)) (p : Int) : preRow acc (r, p, 0) = (acc ++ r, p, 0) := by simp [preRow]
theorem preRow_preRow (acc : List (List UInt8)) (x : List UInt8) (r : List (List UInt8) × Int × Int) : preRow acc (preRow [x] r) = preRow (acc ++ [x]) r := by
  obtain ⟨a, b, c⟩ := r
  by_cases h : c = 0
  · subst h; simp [preRow]
  · simp [preRow, h]
theorem preRow_nil (r : List (List UInt8) × Int × Int) (h : r.2.2 = 0 ∨ r.1 = [] ∧ r.2.1 = 0) : preRow [] r = r := by
  obtain ⟨a, b, c⟩ := r
  by_cases h0 : c = 0
  · subst h0; simp [preRow]
  · simp only [h0, false_or] at h
    obtain ⟨rfl, rfl⟩ := h
    simp [preRow, h0]
theorem rowGo_pre (l : List UInt8) (n : Nat) (p : Int) : preRow [] (rowGo l n p) = rowGo l n p := by
  cases n with
  | zero => simp [rowGo, preRow]
  | succ n =>
    rw [rowGo]
    by_cases h : (bytesR l p).2.2 = 0
    · rw [if_pos h, preRow_preRow]; rfl
    · rw [if_neg h, preRow, if_neg h]
theorem preRow_step {l : List UInt8} {acc : List (List UInt8)} {n k : Nat} {p q : Int} {x : List UInt8} (hk : k < n) (hb : bytesR l p = (x, q, 0)) : preRow acc (rowGo l (n - k) p) = preRow (acc ++ [x]) (rowGo l (n - (k + 1)) q) := by
  rw [show n - k = (n - (k + 1)) + 1 by omega, rowGo, hb, if_pos rfl, preRow_preRow]
theorem preRow_stop {l : List UInt8} {acc : List (List UInt8)} {n k : Nat} {p q er : Int} {x : List UInt8} (hk : k < n) (hb : bytesR l p = (x, q, er)) (he : er ≠ 0) : preRow acc (rowGo l (n - k) p) = ([], 0, er) := by
  rw [show n - k = (n - (k + 1)) + 1 by omega, rowGo, hb, if_neg he, preRow, if_neg he]
theorem preRow_len (acc : List (List UInt8)) (r : List (List UInt8) × Int × Int) : (preRow acc r).1.length ≤ acc.length + r.1.length := by
  unfold preRow; split <;> simp
theorem rowGo_len (l : List UInt8) : ∀ (n : Nat) (p : Int), (rowGo l n p).1.length ≤ n
  | 0, _ => by simp [rowGo]
  | n + 1, p => by
    rw [rowGo]
    split
    · have := preRow_len [(bytesR l p).1] (rowGo l n (bytesR l p).2.1)
      have := rowGo_len l n (bytesR l p).2.1
      simp only [List.length_cons, List.length_nil] at *
      omega
    · simp
theorem rowR_le (l : List UInt8) (a : Int) : (rowR l a).1.length ≤ 1024 := by
  rcases sizeR_cases l a 1024 with ⟨e, he, hz⟩ | ⟨k, rfl, hk, hm, hz⟩
  · rw [rowR, hz]
    rcases he with rfl | rfl | rfl <;> simp
  · rw [rowR, hz, if_pos rfl]
    exact Nat.le_trans (rowGo_len _ _ _) (by simpa using hm)
theorem rowR_len (l : List UInt8) (a : Int) : (rowR l a).1.length ≤ 140737488351236 := Nat.le_trans (rowR_le l a) (by decide)
/-- what 'PutRow' answers -/
def putRowR (ls : List (List UInt8)) : List UInt8 × Int := if ls.length ≤ 1024 ∧ fits ls = true then (rw' ls, 0) else ([], 2)
/-- what 'PutBytes' answers -/
def putBytesR (l : List UInt8) : List UInt8 × Int := if l.length ≤ 65536 then (tx l, 0) else ([], 2)
/-- a row's bytes up to a text -/
def rwTo (ls : List (List UInt8)) (k : Nat) : List UInt8 := be 4 ls.length ++ (ls.take k).flatMap tx
theorem rwTo_zero (ls : List (List UInt8)) : rwTo ls 0 = be 4 ls.length := by simp [rwTo]
theorem rwTo_all (ls : List (List UInt8)) : rwTo ls ls.length = rw' ls := by simp [rwTo, rw']
theorem rwTo_succ (ls : List (List UInt8)) (k : Nat) (h : k < ls.length) : rwTo ls (k + 1) = rwTo ls k ++ tx ls[k] := by
  rw [rwTo, List.take_succ_eq_append_getElem h, List.flatMap_append]; simp [rwTo]
theorem rwTo_le (ls : List (List UInt8)) : ∀ k, k ≤ ls.length → (∀ i, (h : i < ls.length) → i < k → ls[i].length ≤ 65536) → (rwTo ls k).length ≤ 4 + 65540 * k
  | 0, _, _ => by simp [rwTo, be_length]
  | k + 1, hk, h => by
    rw [rwTo_succ ls k (by omega), List.length_append, tx_length]
    have h1 := rwTo_le ls k (by omega) (fun i hi hlt => h i hi (by omega))
    have h2 := h k (by omega) (by omega)
    omega
theorem fits_of (ls : List (List UInt8)) (h : ∀ i, (h : i < ls.length) → ls[i].length ≤ 65536) : fits ls = true := by
  rw [fits, List.all_eq_true]
  intro s hs
  obtain ⟨i, hi, rfl⟩ := List.mem_iff_getElem.1 hs
  simpa using h i hi
theorem fits_at {ls : List (List UInt8)} (h : fits ls = true) (i : Nat) (hi : i < ls.length) : ls[i].length ≤ 65536 := by
  rw [fits, List.all_eq_true] at h
  simpa using h ls[i] (List.getElem_mem hi)
theorem putRowR_no {ls : List (List UInt8)} (i : Nat) (hi : i < ls.length) (h : 65536 < ls[i].length) : putRowR ls = ([], 2) := by
  rw [putRowR, if_neg]
  intro hh
  have := fits_at hh.2 i hi
  omega
theorem putRowR_ok {ls : List (List UInt8)} (hl : ls.length ≤ 1024) (h : ∀ i, (h : i < ls.length) → ls[i].length ≤ 65536) : putRowR ls = (rw' ls, 0) := by
  rw [putRowR, if_pos ⟨hl, fits_of ls h⟩]
theorem putRowR_many {ls : List (List UInt8)} (hl : 1024 < ls.length) : putRowR ls = ([], 2) := by
  rw [putRowR, if_neg (by omega)]
theorem wrap_of (n : Int) (h1 : -9223372036854775808 ≤ n) (h2 : n ≤ 9223372036854775807) : IntKind.i64.wrap n = n := by
  rw [wrap_is]; simp only [wrap64]; omega
theorem or_add (p x : Nat) (q : Nat) (hx : x < 2 ^ p) (hb : 2 ^ p * q + x < 4611686018427387904) : bits .or .i64 ((2 ^ p * q : Nat) : Int) (x : Int) = ((2 ^ p * q + x : Nat) : Int) := by
  show IntKind.i64.wrap (((BitVec.ofInt 64 ((2 ^ p * q : Nat) : Int) ||| BitVec.ofInt 64 (x : Int)).toNat : Nat) : Int) = _
  have h1 : (((2 ^ p * q : Nat) : Int) % ((2 ^ 64 : Nat) : Int)).toNat = 2 ^ p * q := by
    generalize 2 ^ p * q = m at hb
    omega
  have h2 : ((x : Int) % ((2 ^ 64 : Nat) : Int)).toNat = x := by omega
  rw [BitVec.toNat_or, BitVec.toNat_ofInt, BitVec.toNat_ofInt, h1, h2, ← Nat.two_pow_add_eq_or_of_lt hx]
  generalize 2 ^ p * q + x = m at hb
  exact wrap_of _ (by omega) (by omega)
end Go.Cov
