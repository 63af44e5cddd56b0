import Derived.Test.YtgkdnhbhmebmeaaDoorSeaE
namespace Go.Proofs.YtgkdnhbhmebmeaaDoor
open Go.RowKit Go.Cov
/-- k bytes of s, from place i on, changed by the bytes of b, the lowest first. -/
def stir (xs : List UInt8) (i : Nat) (b : BitVec 32) : Nat → List UInt8
  | 0 => xs
  | k + 1 => (stir xs i b k).set (i + k) ((stir xs i b k).getD (i + k) 0 ^^^ Crc.byteOf b k)
theorem stir_length (xs : List UInt8) (i : Nat) (b : BitVec 32) : ∀ k, (stir xs i b k).length = xs.length
  | 0 => rfl
  | k + 1 => by rw [stir, List.length_set, stir_length xs i b k]
theorem stir_pre (p xs : List UInt8) (b : BitVec 32) : ∀ k, stir (p ++ xs) p.length b k = p ++ stir xs 0 b k
  | 0 => rfl
  | k + 1 => by
    rw [stir, stir, stir_pre p xs b k, List.set_append_right _ _ (by omega)]
    simp only [Nat.add_sub_cancel_left, Nat.zero_add, List.getD_eq_getElem?_getD]
    rw [List.getElem?_append_right (by omega), Nat.add_sub_cancel_left]
theorem stir_four (a b c d : UInt8) (q : List UInt8) (s : BitVec 32) : stir ([a, b, c, d] ++ q) 0 s 4 = [a ^^^ Crc.byteOf s 0, b ^^^ Crc.byteOf s 1, c ^^^ Crc.byteOf s 2, d ^^^ Crc.byteOf s 3] ++ q := rfl
theorem word_xor (a b c d a' b' c' d' : UInt8) : Crc.word (a ^^^ a') (b ^^^ b') (c ^^^ c') (d ^^^ d') = Crc.word a b c d ^^^ Crc.word a' b' c' d' := by
  unfold Crc.word
  rw [Crc.ext_xor, Crc.ext_xor, Crc.ext_xor, Crc.ext_xor, BitVec.shiftLeft_xor_distrib, BitVec.shiftLeft_xor_distrib, BitVec.shiftLeft_xor_distrib]
  generalize Crc.ext a = x0
  generalize Crc.ext a' = y0
  generalize Crc.ext b <<< 8 = x1
  generalize Crc.ext b' <<< 8 = y1
  generalize Crc.ext c <<< 16 = x2
  generalize Crc.ext c' <<< 16 = y2
  generalize Crc.ext d <<< 24 = x3
  generalize Crc.ext d' <<< 24 = y3
  apply BitVec.eq_of_getLsbD_eq
  intro i hi
  simp only [BitVec.getLsbD_xor]
  generalize x0.getLsbD i = p0
  generalize y0.getLsbD i = q0
  generalize x1.getLsbD i = p1
  generalize y1.getLsbD i = q1
  generalize x2.getLsbD i = p2
  generalize y2.getLsbD i = q2
  generalize x3.getLsbD i = p3
  generalize y3.getLsbD i = q3
  clear x0 y0 x1 y1 x2 y2 x3 y3 hi
  revert p0 q0 p1 q1 p2 q2 p3 q3
  decide
theorem sum_inj {l m : List UInt8} (h : sumBytes l = sumBytes m) : Crc.crc l = Crc.crc m := by
  unfold sumBytes at h
  injection h with h3 h
  injection h with h2 h
  injection h with h1 h
  injection h with h0 h
  apply Crc.byteOf_inj
  intro k hk
  rcases (show k = 0 ∨ k = 1 ∨ k = 2 ∨ k = 3 by omega) with rfl | rfl | rfl | rfl <;> assumption
/-- behind the sum -/
theorem spoilt_behind (l : List UInt8) (t : Nat) (ht : t + 4 ≤ l.length) (s : BitVec 32) (hs : s ≠ 0#32) : openE (stir (sealed l) (4 + t) s 4) = 21 ∧ openL (stir (sealed l) (4 + t) s 4) = [] := by
  obtain ⟨p, a, b, c, d, q, rfl, rfl⟩ : ∃ p a b c d q, l = p ++ ([a, b, c, d] ++ q) ∧ p.length = t := by
    have h1 : l = l.take t ++ l.drop t := (List.take_append_drop t l).symm
    have h2 : (l.drop t).length ≥ 4 := by simp; omega
    match hh : l.drop t, h2 with
    | a :: b :: c :: d :: q, _ => exact ⟨l.take t, a, b, c, d, q, h1.trans (by rw [hh]; rfl), by simp; omega⟩
    | [], h => simp at h
    | [_], h => simp at h
    | [_, _], h => simp at h
    | [_, _, _], h => simp at h
  have e : stir (sealed (p ++ ([a, b, c, d] ++ q))) (4 + p.length) s 4 = sumBytes (p ++ ([a, b, c, d] ++ q)) ++ (p ++ ([a ^^^ Crc.byteOf s 0, b ^^^ Crc.byteOf s 1, c ^^^ Crc.byteOf s 2, d ^^^ Crc.byteOf s 3] ++ q)) := by
    have h4 : (sumBytes (p ++ ([a, b, c, d] ++ q)) ++ p).length = 4 + p.length := by simp [sumBytes]; omega
    rw [sealed, ← List.append_assoc, ← h4, stir_pre, stir_four, List.append_assoc]
  have hne : Crc.crc (p ++ ([a ^^^ Crc.byteOf s 0, b ^^^ Crc.byteOf s 1, c ^^^ Crc.byteOf s 2, d ^^^ Crc.byteOf s 3] ++ q)) ≠ Crc.crc (p ++ ([a, b, c, d] ++ q)) := by
    rw [← List.append_assoc, ← List.append_assoc]
    apply Crc.crc_spoilt
    rw [word_xor, Crc.word_byteOf]
    intro h
    apply hs
    have := congrArg (fun x => Crc.word a b c d ^^^ x) h
    simpa [← BitVec.xor_assoc] using this
  rw [e]
  generalize p ++ ([a ^^^ Crc.byteOf s 0, b ^^^ Crc.byteOf s 1, c ^^^ Crc.byteOf s 2, d ^^^ Crc.byteOf s 3] ++ q) = m at hne
  generalize p ++ ([a, b, c, d] ++ q) = l at hne
  have hd : (sumBytes l ++ m).drop 4 = m := rfl
  have hl : ¬ (sumBytes l ++ m).length < 4 := by simp [sumBytes]
  have hn : ¬ sealed m = sumBytes l ++ m := fun h => hne (sum_inj (List.append_cancel_right h))
  rw [openE, openL, if_neg hl, if_neg hl, hd, if_neg hn, if_neg hn]
  exact ⟨rfl, rfl⟩
/-- in the sum -/
theorem spoilt_in (l : List UInt8) (s : BitVec 32) : openE (stir (sealed l) 0 s 4) = if s = 0#32 then 0 else 21 := by
  have e : stir (sealed l) 0 s 4 = [Crc.byteOf (Crc.crc l) 3 ^^^ Crc.byteOf s 0, Crc.byteOf (Crc.crc l) 2 ^^^ Crc.byteOf s 1, Crc.byteOf (Crc.crc l) 1 ^^^ Crc.byteOf s 2, Crc.byteOf (Crc.crc l) 0 ^^^ Crc.byteOf s 3] ++ l := rfl
  rw [e, openE, if_neg (by simp), show List.drop 4 ([Crc.byteOf (Crc.crc l) 3 ^^^ Crc.byteOf s 0, Crc.byteOf (Crc.crc l) 2 ^^^ Crc.byteOf s 1, Crc.byteOf (Crc.crc l) 1 ^^^ Crc.byteOf s 2, Crc.byteOf (Crc.crc l) 0 ^^^ Crc.byteOf s 3] ++ l) = l from rfl]
  congr 1
  have cancel : ∀ x y : UInt8, x = x ^^^ y → y = 0 := by
    intro x y h
    have := congrArg (fun z => x ^^^ z) h
    simpa [← UInt8.xor_assoc] using this.symm
  apply propext
  constructor
  · intro h
    have h' := List.append_cancel_right (show sumBytes l ++ l = _ from h)
    unfold sumBytes at h'
    injection h' with h0 h'
    injection h' with h1 h'
    injection h' with h2 h'
    injection h' with h3 h'
    apply Crc.byteOf_inj
    have z : ∀ k, k < 4 → Crc.byteOf 0#32 k = 0 := by decide
    intro k hk
    rw [z k hk]
    rcases (show k = 0 ∨ k = 1 ∨ k = 2 ∨ k = 3 by omega) with rfl | rfl | rfl | rfl
    · exact cancel _ _ h0
    · exact cancel _ _ h1
    · exact cancel _ _ h2
    · exact cancel _ _ h3
  · rintro rfl
    have z : ∀ k, k < 4 → Crc.byteOf 0#32 k = 0 := by decide
    rw [z 0 (by omega), z 1 (by omega), z 2 (by omega), z 3 (by omega)]
    simp [sealed, sumBytes]
end Go.Proofs.YtgkdnhbhmebmeaaDoor
