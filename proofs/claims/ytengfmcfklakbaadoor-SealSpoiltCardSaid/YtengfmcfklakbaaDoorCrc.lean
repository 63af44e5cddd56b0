namespace Go.Crc
def poly : BitVec 32 := 0x82f63b78#32
def bstep (r : BitVec 32) : BitVec 32 := (r >>> 1) ^^^ (if r.getLsbD 0 then poly else 0#32)
def bsteps : Nat → BitVec 32 → BitVec 32
  | 0, r => r
  | n + 1, r => bsteps n (bstep r)
def table : List Nat := [0x00000000, 0x105ec76f, 0x20bd8ede, 0x30e349b1, 0x417b1dbc, 0x5125dad3, 0x61c69362, 0x7198540d,
  0x82f63b78, 0x92a8fc17, 0xa24bb5a6, 0xb21572c9, 0xc38d26c4, 0xd3d3e1ab, 0xe330a81a, 0xf36e6f75]
def nib (r : BitVec 32) : BitVec 32 := (r >>> 4) ^^^ BitVec.ofNat 32 (table.getD (r &&& 15#32).toNat 0)
theorem bstep_xor (a b : BitVec 32) : bstep (a ^^^ b) = bstep a ^^^ bstep b := by
  unfold bstep
  rw [BitVec.ushiftRight_xor_distrib, BitVec.getLsbD_xor]
  have lc : ∀ x y z : BitVec 32, x ^^^ (y ^^^ z) = y ^^^ (x ^^^ z) := fun x y z => by rw [← BitVec.xor_assoc, BitVec.xor_comm x y, BitVec.xor_assoc]
  cases a.getLsbD 0 <;> cases b.getLsbD 0
  · simp
  · simp [BitVec.xor_assoc]
  · simp [BitVec.xor_assoc, BitVec.xor_comm poly]
  · simp only [Bool.xor_self, Bool.false_eq_true, if_false, if_true, BitVec.xor_zero, BitVec.xor_assoc]
    rw [lc poly (b >>> 1) poly, BitVec.xor_self, BitVec.xor_zero]
theorem bsteps_xor (n : Nat) (a b : BitVec 32) : bsteps n (a ^^^ b) = bsteps n a ^^^ bsteps n b := by
  induction n generalizing a b with
  | zero => rfl
  | succ n ih => simp only [bsteps, bstep_xor, ih]
theorem bsteps_add (m n : Nat) (r : BitVec 32) : bsteps (m + n) r = bsteps n (bsteps m r) := by
  induction m generalizing r with
  | zero => simp [bsteps]
  | succ m ih => rw [Nat.succ_add]; simp only [bsteps, ih]
theorem bstep_zero : bstep 0#32 = 0#32 := by decide
theorem bsteps_zero (n : Nat) : bsteps n 0#32 = 0#32 := by
  induction n with
  | zero => rfl
  | succ n ih => simp only [bsteps, bstep_zero, ih]
def binv (s : BitVec 32) : BitVec 32 := if s.getLsbD 31 then ((s ^^^ poly) <<< 1) ||| 1#32 else s <<< 1
theorem binv_bstep (r : BitVec 32) : binv (bstep r) = r := by
  unfold binv bstep
  cases h : r.getLsbD 0
  · have e : (r >>> 1 ^^^ 0#32).getLsbD 31 = false := by simp
    simp only [Bool.false_eq_true, if_false, e]
    apply BitVec.eq_of_getLsbD_eq
    intro i hi
    rcases i with _ | i
    · rw [h]; simp
    · have h2 : i + 1 < 32 := hi
      have h3 : 1 + i = i + 1 := by omega
      simp only [BitVec.getLsbD_shiftLeft, BitVec.getLsbD_xor, BitVec.getLsbD_ushiftRight, BitVec.getLsbD_zero, Bool.xor_false]
      simp [h2, h3]
  · have e : (r >>> 1 ^^^ poly).getLsbD 31 = true := by simp [poly]
    simp only [if_true, e]
    apply BitVec.eq_of_getLsbD_eq
    intro i hi
    have e2 : r >>> 1 ^^^ poly ^^^ poly = r >>> 1 := by rw [BitVec.xor_assoc, BitVec.xor_self, BitVec.xor_zero]
    rw [e2]
    rcases i with _ | i
    · rw [h]; simp
    · have h2 : i + 1 < 32 := hi
      have h3 : 1 + i = i + 1 := by omega
      simp only [BitVec.getLsbD_or, BitVec.getLsbD_shiftLeft, BitVec.getLsbD_ushiftRight]
      simp [h2, h3]
theorem bstep_inj {a b : BitVec 32} (h : bstep a = bstep b) : a = b := by
  rw [← binv_bstep a, h, binv_bstep]
theorem bsteps_inj (n : Nat) {a b : BitVec 32} (h : bsteps n a = bsteps n b) : a = b := by
  induction n generalizing a b with
  | zero => exact h
  | succ n ih => exact bstep_inj (ih h)
theorem bsteps_shl (n : Nat) (a : BitVec 32) (h : ∀ i, i < n → a.getLsbD i = false) : bsteps n a = a >>> n := by
  induction n generalizing a with
  | zero => simp [bsteps]
  | succ n ih =>
    have e : bstep a = a >>> 1 := by unfold bstep; rw [h 0 (by omega)]; simp
    rw [bsteps, e, ih]
    · rw [← BitVec.shiftRight_add]; congr 1; omega
    · intro i hi
      rw [BitVec.getLsbD_ushiftRight]
      exact h _ (by omega)
theorem low_split (n : Nat) (r : BitVec 32) : r = ((r >>> n) <<< n) ^^^ (r &&& BitVec.ofNat 32 (2 ^ n - 1)) := by
  apply BitVec.eq_of_getLsbD_eq
  intro i hi
  simp only [BitVec.getLsbD_xor, BitVec.getLsbD_and, BitVec.getLsbD_shiftLeft, BitVec.getLsbD_ushiftRight, BitVec.getLsbD_ofNat, Nat.testBit_two_pow_sub_one]
  by_cases h : i < n
  · simp [h, hi]
  · have e : n + (i - n) = i := by omega
    simp [h, hi, e]
theorem table_step : ∀ k : Fin 16, bsteps 4 (BitVec.ofNat 32 k.val) = BitVec.ofNat 32 (table.getD k.val 0) := by decide
theorem nib_eq (r : BitVec 32) : nib r = bsteps 4 r := by
  have e := low_split 4 r
  have h1 : bsteps 4 ((r >>> 4) <<< 4) = r >>> 4 := by
    rw [bsteps_shl 4 _ (fun i hi => by simp [BitVec.getLsbD_shiftLeft, hi])]
    apply BitVec.eq_of_getLsbD_eq
    intro i hi
    simp only [BitVec.getLsbD_ushiftRight, BitVec.getLsbD_shiftLeft]
    by_cases h : 4 + i < 32
    · simp [h]
    · have h5 : r.getLsbD (4 + i) = false := BitVec.getLsbD_of_ge _ _ (by omega)
      simp [h5]
  have hlt : (r &&& 15#32).toNat < 16 := by
    rw [BitVec.toNat_and]
    exact Nat.lt_of_le_of_lt Nat.and_le_right (by decide)
  have h2 := table_step ⟨_, hlt⟩
  simp only [BitVec.ofNat_toNat, BitVec.setWidth_eq] at h2
  have h3 : BitVec.ofNat 32 (2 ^ 4 - 1) = 15#32 := by decide
  rw [h3] at e
  conv => rhs; rw [e]
  rw [bsteps_xor, h1, h2]
  rfl

def ext (c : UInt8) : BitVec 32 := BitVec.ofNat 32 c.toNat
def byteStep (r : BitVec 32) (c : UInt8) : BitVec 32 := bsteps 8 (r ^^^ ext c)
def run (r : BitVec 32) (l : List UInt8) : BitVec 32 := l.foldl byteStep r
def crc (l : List UInt8) : BitVec 32 := ~~~ (run (~~~ 0#32) l)
theorem nib_nib (r : BitVec 32) : nib (nib r) = bsteps 8 r := by rw [nib_eq, nib_eq, ← bsteps_add]
theorem ext_xor (a b : UInt8) : ext (a ^^^ b) = ext a ^^^ ext b := by
  unfold ext
  apply BitVec.eq_of_toNat_eq
  have ha := a.toNat_lt
  have hb := b.toNat_lt
  have hx : a.toNat ^^^ b.toNat < 2 ^ 8 := Nat.xor_lt_two_pow (by omega) (by omega)
  simp only [UInt8.toNat_xor, BitVec.toNat_ofNat, BitVec.toNat_xor]
  rw [Nat.mod_eq_of_lt (by omega), Nat.mod_eq_of_lt (by omega), Nat.mod_eq_of_lt (by omega)]
theorem byteStep_xor (r s : BitVec 32) (a b : UInt8) : byteStep (r ^^^ s) (a ^^^ b) = byteStep r a ^^^ byteStep s b := by
  unfold byteStep
  rw [ext_xor, ← bsteps_xor]
  congr 1
  rw [BitVec.xor_assoc, BitVec.xor_assoc, ← BitVec.xor_assoc s, BitVec.xor_comm s, BitVec.xor_assoc]
theorem run_xor (r s : BitVec 32) (a b : List UInt8) (h : a.length = b.length) : run (r ^^^ s) (List.zipWith (· ^^^ ·) a b) = run r a ^^^ run s b := by
  induction a generalizing r s b with
  | nil => cases b with
    | nil => rfl
    | cons _ _ => cases h
  | cons x a ih => cases b with
    | nil => cases h
    | cons y b =>
      simp only [run, List.zipWith_cons_cons, List.foldl_cons, byteStep_xor]
      exact ih _ _ _ (by simpa using h)
def xor3 (a b c : List UInt8) : List UInt8 := List.zipWith (· ^^^ ·) (List.zipWith (· ^^^ ·) a b) c
theorem crc_three (a b c : List UInt8) (h1 : a.length = b.length) (h2 : b.length = c.length) : crc (xor3 a b c) = crc a ^^^ crc b ^^^ crc c := by
  unfold crc xor3
  have e : (~~~ 0#32 : BitVec 32) = (~~~ 0#32 ^^^ ~~~ 0#32) ^^^ ~~~ 0#32 := by decide
  have e2 : run (~~~ 0#32) (List.zipWith (· ^^^ ·) (List.zipWith (· ^^^ ·) a b) c) = run (~~~ 0#32) a ^^^ run (~~~ 0#32) b ^^^ run (~~~ 0#32) c := by
    conv => lhs; rw [e]
    rw [run_xor _ _ _ _ (by simp; omega), run_xor _ _ _ _ h1]
  rw [e2]
  apply BitVec.eq_of_getLsbD_eq
  intro i hi
  simp only [BitVec.getLsbD_not, BitVec.getLsbD_xor, hi]
  cases (run (~~~ 0#32) a).getLsbD i <;> cases (run (~~~ 0#32) b).getLsbD i <;> cases (run (~~~ 0#32) c).getLsbD i <;> rfl
theorem run_append (r : BitVec 32) (a b : List UInt8) : run r (a ++ b) = run (run r a) b := by simp [run]
/-- four bytes, the lowest first, as one word -/
def word (a b c d : UInt8) : BitVec 32 := ext a ^^^ (ext b <<< 8) ^^^ (ext c <<< 16) ^^^ (ext d <<< 24)
theorem ext_bit (c : UInt8) (i : Nat) (h : 8 ≤ i) : (ext c).getLsbD i = false := by
  unfold ext
  rw [BitVec.getLsbD_ofNat]
  have := c.toNat_lt
  rw [Nat.testBit_lt_two_pow (Nat.lt_of_lt_of_le this (Nat.pow_le_pow_right (by omega) h))]
  simp
theorem shl_back (x : BitVec 32) (n : Nat) (m : Nat) (h : ∀ i, m ≤ i → x.getLsbD i = false) (hn : n + m ≤ 32) : bsteps n (x <<< n) = x := by
  rw [bsteps_shl n _ (fun i hi => by simp [BitVec.getLsbD_shiftLeft, hi])]
  apply BitVec.eq_of_getLsbD_eq
  intro i hi
  simp only [BitVec.getLsbD_ushiftRight, BitVec.getLsbD_shiftLeft]
  by_cases hm : m ≤ i
  · rw [h i hm]; simp [h i hm]
  · have h1 : n + i < 32 := by omega
    have h2 : n + i - n = i := by omega
    have h3 : ¬ n + i < n := by omega
    simp [h1, h2, h3]
theorem run_word (r : BitVec 32) (a b c d : UInt8) : run r [a, b, c, d] = bsteps 32 (r ^^^ word a b c d) := by
  have hb := shl_back (ext b) 8 8 (ext_bit b) (by omega)
  have hc := shl_back (ext c) 16 8 (ext_bit c) (by omega)
  have hd := shl_back (ext d) 24 8 (ext_bit d) (by omega)
  have e : r ^^^ word a b c d = ((r ^^^ ext a) ^^^ (ext b <<< 8)) ^^^ (ext c <<< 16) ^^^ (ext d <<< 24) := by unfold word; simp only [BitVec.xor_assoc]
  rw [e]
  have s8 : ∀ x, bsteps 32 x = bsteps 8 (bsteps 8 (bsteps 8 (bsteps 8 x))) := fun x => by rw [← bsteps_add, ← bsteps_add, ← bsteps_add]
  have s16 : ∀ x, bsteps 8 (bsteps 8 x) = bsteps 16 x := fun x => by rw [← bsteps_add]
  have s24 : ∀ x, bsteps 8 (bsteps 8 (bsteps 8 x)) = bsteps 24 x := fun x => by rw [← bsteps_add, ← bsteps_add]
  simp only [run, List.foldl_cons, List.foldl_nil, byteStep]
  rw [s8]
  simp only [bsteps_xor]
  rw [s24 (ext d <<< 24), hd, s16 (ext c <<< 16), hc, hb]
theorem run_inj {r s : BitVec 32} (l : List UInt8) (h : run r l = run s l) : r = s := by
  induction l generalizing r s with
  | nil => exact h
  | cons c l ih =>
    have h1 := bsteps_inj 8 (ih h)
    have h2 : r ^^^ ext c ^^^ ext c = s ^^^ ext c ^^^ ext c := by rw [h1]
    simpa [BitVec.xor_assoc] using h2
/-- unlike in four bytes that stand one behind the other: unlike sums -/
theorem crc_spoilt (p q : List UInt8) (a b c d a' b' c' d' : UInt8) (h : word a b c d ≠ word a' b' c' d') : crc (p ++ [a, b, c, d] ++ q) ≠ crc (p ++ [a', b', c', d'] ++ q) := by
  intro he
  unfold crc at he
  have h1 : run (~~~ 0#32) (p ++ [a, b, c, d] ++ q) = run (~~~ 0#32) (p ++ [a', b', c', d'] ++ q) := by
    have := congrArg (fun x : BitVec 32 => ~~~ x) he
    simpa using this
  rw [run_append, run_append, run_append, run_append] at h1
  have h2 := run_inj _ h1
  rw [run_word, run_word] at h2
  have h3 := bsteps_inj 32 h2
  apply h
  have h4 := congrArg (fun x : BitVec 32 => (run (~~~ 0#32) p) ^^^ x) h3
  simpa [← BitVec.xor_assoc] using h4
def byteOf (s : BitVec 32) (k : Nat) : UInt8 := UInt8.ofNat ((s >>> (8 * k)).toNat % 256)
theorem ext_byteOf (s : BitVec 32) (k i : Nat) : (ext (byteOf s k)).getLsbD i = (decide (i < 8) && s.getLsbD (8 * k + i)) := by
  unfold ext byteOf
  rw [BitVec.getLsbD_ofNat]
  have e : (UInt8.ofNat ((s >>> (8 * k)).toNat % 256)).toNat = (s >>> (8 * k)).toNat % 2 ^ 8 := by
    simp
  rw [e, Nat.testBit_mod_two_pow]
  have e2 : (s >>> (8 * k)).toNat.testBit i = s.getLsbD (8 * k + i) := by
    rw [← BitVec.getLsbD_ushiftRight]; rfl
  rw [e2]
  by_cases h : i < 8
  · simp [h]; omega
  · simp [h]
theorem word_byteOf (s : BitVec 32) : word (byteOf s 0) (byteOf s 1) (byteOf s 2) (byteOf s 3) = s := by
  apply BitVec.eq_of_getLsbD_eq
  intro i hi
  unfold word
  simp only [BitVec.getLsbD_xor, BitVec.getLsbD_shiftLeft, ext_byteOf]
  rcases (show i < 8 ∨ (8 ≤ i ∧ i < 16) ∨ (16 ≤ i ∧ i < 24) ∨ (24 ≤ i ∧ i < 32) by omega) with h | h | h | h
  · have h1 : i < 16 := by omega
    have h2 : i < 24 := by omega
    simp [h, h1, h2]
  · have h0 : ¬ i < 8 := by omega
    have h1 : i < 16 := by omega
    have h2 : i < 24 := by omega
    have h3 : i - 8 < 8 := by omega
    have h4 : 8 + (i - 8) = i := by omega
    simp [h0, h1, h2, h3, h4, hi]
  · have h0 : ¬ i < 8 := by omega
    have h1 : ¬ i < 16 := by omega
    have h2 : i < 24 := by omega
    have h3 : i - 16 < 8 := by omega
    have h4 : 16 + (i - 16) = i := by omega
    have h5 : ¬ i - 8 < 8 := by omega
    simp [h0, h1, h2, h3, h4, h5, hi]
  · have h0 : ¬ i < 8 := by omega
    have h1 : ¬ i < 16 := by omega
    have h2 : ¬ i < 24 := by omega
    have h3 : i - 24 < 8 := by omega
    have h4 : 24 + (i - 24) = i := by omega
    have h5 : ¬ i - 8 < 8 := by omega
    have h6 : ¬ i - 16 < 8 := by omega
    simp [h0, h1, h2, h3, h4, h5, h6, hi]
theorem crc_own (l : List UInt8) : crc (l ++ [byteOf (crc l) 0, byteOf (crc l) 1, byteOf (crc l) 2, byteOf (crc l) 3]) = 0x48674bc7#32 := by
  have e : run (~~~ 0#32) l ^^^ crc l = 0xffffffff#32 := by
    unfold crc
    apply BitVec.eq_of_getLsbD_eq
    intro i hi
    rw [BitVec.getLsbD_xor, BitVec.getLsbD_not]
    have : (0xffffffff#32 : BitVec 32).getLsbD i = true := by
      have : (0xffffffff#32 : BitVec 32) = BitVec.allOnes 32 := by decide
      rw [this, BitVec.getLsbD_allOnes]; simp [hi]
    rw [this]
    cases (run (~~~ 0#32) l).getLsbD i <;> simp [hi]
  show ~~~ (run (~~~ 0#32) (l ++ [byteOf (crc l) 0, byteOf (crc l) 1, byteOf (crc l) 2, byteOf (crc l) 3])) = 0x48674bc7#32
  rw [run_append, run_word, word_byteOf, e]
  decide +kernel
theorem byteOf_inj {s t : BitVec 32} (h : ∀ k, k < 4 → byteOf s k = byteOf t k) : s = t := by
  rw [← word_byteOf s, ← word_byteOf t, h 0 (by omega), h 1 (by omega), h 2 (by omega), h 3 (by omega)]
end Go.Crc
