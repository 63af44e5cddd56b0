import Derived.Test.YtoceipdkmafagaaWireQ
/-! plain laws of 'wire': what was written is read; what was read is written; what is cut ends too early -/
namespace Go.Cov
open Go.RowKit
theorem foldl_nat (l : List UInt8) (a : Nat) : l.foldl (fun a c => a * 256 + c.toNat) a = a * 256 ^ l.length + nat l := by
  unfold nat
  suffices h : ∀ (l : List UInt8) (a b : Nat), l.foldl (fun a c => a * 256 + c.toNat) (a + b) = a * 256 ^ l.length + l.foldl (fun a c => a * 256 + c.toNat) b from by simpa using h l a 0
  intro l
  induction l with
  | nil => intro a b; simp
  | cons c l ih =>
    intro a b
    simp only [List.foldl_cons, List.length_cons]
    rw [show (a + b) * 256 + c.toNat = a * 256 + (b * 256 + c.toNat) by omega, ih (a * 256), Nat.pow_succ]
    have : a * 256 * 256 ^ l.length = a * (256 ^ l.length * 256) := by rw [Nat.mul_assoc, Nat.mul_comm 256]
    omega
theorem nat_cons (x : UInt8) (l : List UInt8) : nat (x :: l) = x.toNat * 256 ^ l.length + nat l := by
  have := foldl_nat l x.toNat
  unfold nat at *
  simpa using this
theorem nat_be (k : Nat) : ∀ s, nat (be s (k : Int)) = k % 256 ^ s
  | 0 => by simp [be, nat, Nat.mod_one]
  | s + 1 => by
    rw [be, nat_cons, be_length, nat_be k s, bt_nat, Nat.pow_succ, Nat.mod_mul, Nat.mul_comm (256 ^ s)]
    omega
theorem bt_mod (k i s : Nat) (h : i < s) : bt ((k % 256 ^ s : Nat) : Int) i = bt (k : Int) i := by
  rw [← UInt8.toNat_inj, bt_nat, bt_nat]
  obtain ⟨d, rfl⟩ : ∃ d, s = i + (d + 1) := ⟨s - i - 1, by omega⟩
  rw [Nat.pow_add, Nat.mod_mul_right_div_self, Nat.mod_mod_of_dvd]
  exact ⟨256 ^ d, by rw [Nat.pow_succ, Nat.mul_comm]⟩
theorem be_congr {a b : Int} : ∀ s, (∀ i, i < s → bt a i = bt b i) → be s a = be s b
  | 0, _ => rfl
  | s + 1, h => by rw [be, be, h s (by omega), be_congr s (fun i hi => h i (by omega))]
theorem be_nat : ∀ (l : List UInt8), be l.length (nat l : Int) = l
  | [] => rfl
  | x :: l => by
    have hlt := nat_lt l
    have hp : 0 < 256 ^ l.length := Nat.pow_pos (by decide)
    rw [List.length_cons, be, nat_cons]
    have h1 : bt ((x.toNat * 256 ^ l.length + nat l : Nat) : Int) l.length = x := by
      rw [← UInt8.toNat_inj, bt_nat, Nat.mul_comm, Nat.mul_add_div hp, Nat.div_eq_of_lt hlt, Nat.add_zero]
      exact Nat.mod_eq_of_lt x.toNat_lt
    have h2 : be l.length ((x.toNat * 256 ^ l.length + nat l : Nat) : Int) = be l.length (nat l : Int) := by
      apply be_congr
      intro i hi
      rw [← bt_mod _ i l.length hi, Nat.mul_comm, Nat.mul_add_mod, Nat.mod_eq_of_lt hlt]
    rw [h1, h2, be_nat l]
theorem bt_neg (n : Int) (i : Nat) (hi : i < 8) : bt (n + 18446744073709551616) i = bt n i := by
  rw [← UInt8.toNat_inj]
  have h1 := bt_int n i
  have h2 := bt_int (n + 18446744073709551616) i
  obtain ⟨d, hd⟩ : ∃ d : Nat, (18446744073709551616 : Int) = (2 : Int) ^ (8 * i) * (256 * (d : Int)) := by
    match i, hi with
    | 0, _ => exact ⟨72057594037927936, by decide⟩
    | 1, _ => exact ⟨281474976710656, by decide⟩
    | 2, _ => exact ⟨1099511627776, by decide⟩
    | 3, _ => exact ⟨4294967296, by decide⟩
    | 4, _ => exact ⟨16777216, by decide⟩
    | 5, _ => exact ⟨65536, by decide⟩
    | 6, _ => exact ⟨256, by decide⟩
    | 7, _ => exact ⟨1, by decide⟩
  have hp : (2 : Int) ^ (8 * i) ≠ 0 := Int.pow_ne_zero (by decide)
  have key : (n + 18446744073709551616) / 2 ^ (8 * i) % 256 = n / 2 ^ (8 * i) % 256 := by
    rw [hd, Int.add_mul_ediv_left _ _ hp]
    generalize n / 2 ^ (8 * i) = q
    omega
  rw [key] at h2
  omega
theorem be8_gv (l : List UInt8) (h : l.length = 8) : be 8 (gv l) = l := by
  have hb := be_nat l
  rw [h] at hb
  have hlt := nat_lt l
  rw [h] at hlt
  rw [gv_nat]
  have e : (256 : Nat) ^ 8 = 18446744073709551616 := by decide
  rw [e] at hlt
  generalize nat l = m at hb hlt
  by_cases hm : m < 9223372036854775808
  · have : wrap64 (m : Int) = m := by simp only [wrap64]; omega
    rw [this, hb]
  · have : wrap64 (m : Int) + 18446744073709551616 = m := by simp only [wrap64]; omega
    rw [← hb]
    generalize wrap64 (m : Int) = v at this
    rw [← this]
    exact (be_congr 8 (fun i hi => bt_neg v i hi)).symm
theorem gv_be8 (n : Int) (h1 : -9223372036854775808 ≤ n) (h2 : n < 9223372036854775808) : gv (be 8 n) = n := by
  rw [gv_nat]
  by_cases h : 0 ≤ n
  · obtain ⟨k, rfl⟩ : ∃ k : Nat, n = k := ⟨n.toNat, by omega⟩
    rw [nat_be, Nat.mod_eq_of_lt (by have e : (256 : Nat) ^ 8 = 18446744073709551616 := by decide
                                     omega)]
    simp only [wrap64]
    omega
  · obtain ⟨k, hk⟩ : ∃ k : Nat, n + 18446744073709551616 = k := ⟨(n + 18446744073709551616).toNat, by omega⟩
    have e : be 8 n = be 8 (k : Int) := by rw [← hk]; exact (be_congr 8 (fun i hi => bt_neg n i hi)).symm
    rw [e, nat_be, Nat.mod_eq_of_lt (by have e : (256 : Nat) ^ 8 = 18446744073709551616 := by decide
                                        omega)]
    simp only [wrap64]
    omega
/-! ### what stands at a place -/
theorem drop_pre (pre rest : List UInt8) : (pre ++ rest).drop pre.length = rest := by simp
theorem getR_at (pre m rest : List UInt8) (s : Nat) (hm : m.length = s) : getR (pre ++ (m ++ rest)) (pre.length : Int) s = (gv m, (pre.length : Int) + s, 0) := by
  rw [getR, if_neg (by simp only [List.length_append]; omega), if_neg (by simp only [List.length_append]; omega)]
  rw [show ((pre.length : Int)).toNat = pre.length by omega, drop_pre, List.take_append_of_le_length (by omega), List.take_of_length_le (by omega)]
theorem num_back (pre rest : List UInt8) (n : Int) (h1 : -9223372036854775808 ≤ n) (h2 : n < 9223372036854775808) : getR (pre ++ (be 8 n ++ rest)) (pre.length : Int) 8 = (n, (pre.length : Int) + 8, 0) := by
  rw [getR_at pre (be 8 n) rest 8 (be_length 8 n), gv_be8 n h1 h2]; rfl
theorem bool_back (pre rest : List UInt8) (b : Bool) : boolR (pre ++ ([tb b] ++ rest)) (pre.length : Int) = (b, (pre.length : Int) + 1, 0) := by
  rw [boolR, getR_at pre [tb b] rest 1 rfl, gv_one]
  cases b <;> rfl
theorem size_back (pre rest : List UInt8) (n : Nat) (most : Nat) (h : n ≤ most) (h32 : n < 4294967296) : sizeR (pre ++ (be 4 n ++ rest)) (pre.length : Int) most = ((n : Int), (pre.length : Int) + 4, 0) := by
  have hg : gv (be 4 (n : Int)) = n := by
    rw [(gv4 _ (by rw [be_length]; omega)).1, nat_be, Nat.mod_eq_of_lt (by have e : (256 : Nat) ^ 4 = 4294967296 := by decide
                                                                           omega)]
  rw [sizeR, getR_at pre (be 4 n) rest 4 (be_length 4 n), hg, sizeOf', if_neg (by dsimp only; omega)]
  rfl
theorem bytes_back (pre rest t : List UInt8) (h : t.length ≤ 65536) : bytesR (pre ++ (tx t ++ rest)) (pre.length : Int) = (t, (pre.length : Int) + (tx t).length, 0) := by
  have hs := size_back pre (t ++ rest) t.length 65536 h (by omega)
  rw [tx, List.append_assoc]
  rw [bytesR, hs, if_pos rfl, if_neg (by simp only [List.length_append, be_length]; omega)]
  have e1 : ((pre.length : Int) + 4).toNat = (pre ++ be 4 t.length).length := by rw [List.length_append, be_length]; omega
  have e2 : pre ++ (be 4 t.length ++ (t ++ rest)) = (pre ++ be 4 t.length) ++ (t ++ rest) := by simp
  dsimp only
  rw [e1, e2, drop_pre, show ((t.length : Int)).toNat = t.length by omega, List.take_append_of_le_length (Nat.le_refl _), List.take_of_length_le (Nat.le_refl _), List.length_append, be_length]
  congr 2
  omega
theorem rowGo_back (rest : List UInt8) : ∀ (ls : List (List UInt8)) (pre : List UInt8), (∀ s ∈ ls, s.length ≤ 65536) → rowGo (pre ++ (ls.flatMap tx ++ rest)) ls.length (pre.length : Int) = (ls, (pre.length : Int) + (ls.flatMap tx).length, 0)
  | [], pre, _ => by simp [rowGo]
  | t :: ls, pre, h => by
    have hb := bytes_back pre (ls.flatMap tx ++ rest) t (h t (List.mem_cons_self ..))
    have hr := rowGo_back rest ls (pre ++ tx t) (fun s hs => h s (List.mem_cons_of_mem _ hs))
    rw [List.flatMap_cons, List.length_cons, rowGo, List.append_assoc, hb, if_pos rfl]
    dsimp only
    rw [show pre ++ (tx t ++ (ls.flatMap tx ++ rest)) = pre ++ tx t ++ (ls.flatMap tx ++ rest) by simp, show (pre.length : Int) + ((tx t).length : Int) = ((pre ++ tx t).length : Int) by rw [List.length_append]; omega, hr, preRow_ok]
    rw [List.length_append, List.length_append]
    congr 2
    omega
theorem fits_mem {ls : List (List UInt8)} (h : fits ls = true) : ∀ s ∈ ls, s.length ≤ 65536 := by
  intro s hs
  rw [fits, List.all_eq_true] at h
  simpa using h s hs
theorem row_back (pre rest : List UInt8) (ls : List (List UInt8)) (h : ls.length ≤ 1024) (hf : fits ls = true) : rowR (pre ++ (rw' ls ++ rest)) (pre.length : Int) = (ls, (pre.length : Int) + (rw' ls).length, 0) := by
  have hs := size_back pre (ls.flatMap tx ++ rest) ls.length 1024 h (by omega)
  have hr := rowGo_back rest ls (pre ++ be 4 ls.length) (fits_mem hf)
  rw [rw', List.append_assoc, rowR, hs, if_pos rfl]
  dsimp only
  rw [show ((ls.length : Int)).toNat = ls.length by omega, show pre ++ (be 4 ls.length ++ (ls.flatMap tx ++ rest)) = (pre ++ be 4 ls.length) ++ (ls.flatMap tx ++ rest) by simp, show (pre.length : Int) + 4 = ((pre ++ be 4 ls.length).length : Int) by rw [List.length_append, be_length]; omega, hr]
  simp only [List.length_append, be_length]
  congr 2
  omega
/-! ### what is read stands there -/
theorem num_kept {l : List UInt8} {k : Nat} {n p : Int} (h : getR l k 8 = (n, p, 0)) : p = (k : Int) + 8 ∧ ∃ rest, l.drop k = be 8 n ++ rest ∧ k + 8 ≤ l.length := by
  rcases getR_cases l k 8 with ⟨_, h1⟩ | ⟨_, h1⟩ | ⟨j, hj, hl, h1⟩
  · rw [h1] at h; cases h
  · rw [h1] at h; cases h
  · obtain rfl : k = j := by omega
    rw [h1] at h
    injection h with h2 h3
    injection h3 with h3 _
    refine ⟨h3.symm, (l.drop k).drop 8, ?_, hl⟩
    rw [← h2, be8_gv _ (by simp; omega), List.take_append_drop]
theorem bool_kept {l : List UInt8} {k : Nat} {b : Bool} {p : Int} (h : boolR l k = (b, p, 0)) : p = (k : Int) + 1 ∧ ∃ rest, l.drop k = [tb b] ++ rest ∧ k + 1 ≤ l.length := by
  unfold boolR at h
  rcases getR_cases l k 1 with ⟨_, h1⟩ | ⟨_, h1⟩ | ⟨j, hj, hl, h1⟩
  · rw [h1] at h; cases h
  · rw [h1] at h; cases h
  · obtain rfl : k = j := by omega
    rw [h1] at h
    obtain ⟨x, r, hd⟩ : ∃ x r, l.drop k = x :: r := by
      cases hd : l.drop k with
      | nil => have := congrArg List.length hd; simp at this; omega
      | cons x r => exact ⟨x, r, rfl⟩
    rw [hd, show (x :: r).take 1 = [x] from rfl, gv_one] at h
    unfold boolOf at h
    rw [if_pos rfl] at h
    dsimp only at h
    split at h
    · cases h
    · injection h with h2 h3
      injection h3 with h3 _
      refine ⟨h3.symm, r, ?_, hl⟩
      rw [hd]
      congr 1
      rename_i hx
      rw [← UInt8.toNat_inj, ← h2]
      by_cases hx1 : x.toNat = 1
      · rw [hx1]; rfl
      · have : x.toNat = 0 := by omega
        rw [this]; rfl
theorem bytes_kept {l : List UInt8} {k : Nat} {t : List UInt8} {p : Int} (h : bytesR l k = (t, p, 0)) : t.length ≤ 65536 ∧ p = (k : Int) + (tx t).length ∧ k + (tx t).length ≤ l.length ∧ l.drop k = tx t ++ l.drop (k + (tx t).length) := by
  rcases bytesR_cases l k with ⟨e, he, h1⟩ | ⟨j, n, hj, hn, hn2, hl, hz, h1⟩
  · rw [h1] at h; injection h with _ h; injection h with _ h; rcases he with rfl | rfl | rfl <;> cases h
  · obtain rfl : k = j := by omega
    rw [h1] at h
    injection h with h2 h3
    injection h3 with h3 _
    have hlt : t.length = n := by rw [← h2]; simp; omega
    have hb4 : be 4 (n : Int) = (l.drop k).take 4 := by
      have := be_nat ((l.drop k).take 4)
      rw [show ((l.drop k).take 4).length = 4 by simp; omega, ← hn] at this
      exact this
    refine ⟨by omega, by rw [tx_length, hlt, ← h3]; omega, by rw [tx_length, hlt]; omega, ?_⟩
    rw [tx_length, hlt, tx, hlt, hb4, ← h2]
    rw [show l.drop (k + (4 + n)) = ((l.drop k).drop 4).drop n by rw [List.drop_drop, List.drop_drop], show l.drop (k + 4) = (l.drop k).drop 4 by rw [List.drop_drop], List.append_assoc, List.take_append_drop, List.take_append_drop]
theorem preRow_inv {acc : List (List UInt8)} {r : List (List UInt8) × Int × Int} {ls : List (List UInt8)} {p : Int} (h : preRow acc r = (ls, p, 0)) : ∃ r1, r = (r1, p, 0) ∧ ls = acc ++ r1 := by
  obtain ⟨r1, r2, r3⟩ := r
  unfold preRow at h
  dsimp only at h
  split at h
  · rename_i h0
    injection h with h1 h2
    injection h2 with h2 h3
    exact ⟨r1, by rw [h2, h0], h1.symm⟩
  · injection h with h1 h2
    injection h2 with h2 h3
    contradiction
theorem rowGo_kept {l : List UInt8} : ∀ (n k : Nat) (ls : List (List UInt8)) (p : Int), k ≤ l.length → rowGo l n k = (ls, p, 0) → ls.length = n ∧ (∀ s ∈ ls, s.length ≤ 65536) ∧ p = (k : Int) + (ls.flatMap tx).length ∧ k + (ls.flatMap tx).length ≤ l.length ∧ l.drop k = ls.flatMap tx ++ l.drop (k + (ls.flatMap tx).length)
  | 0, k, ls, p, hk, h => by
    rw [rowGo] at h
    injection h with h1 h2
    injection h2 with h2 _
    subst h1 h2
    exact ⟨rfl, by simp, by simp, by simpa using hk, by simp⟩
  | n + 1, k, ls, p, hk, h => by
    rw [rowGo] at h
    by_cases h0 : (bytesR l k).2.2 = 0
    · rw [if_pos h0] at h
      obtain ⟨r1, hr, rfl⟩ := preRow_inv h
      obtain ⟨t, q, e, hb⟩ : ∃ t q e, bytesR l k = (t, q, e) := ⟨_, _, _, rfl⟩
      rw [hb] at h0 hr
      dsimp only at h0 hr
      subst h0
      obtain ⟨b1, b2, b3, b4⟩ := bytes_kept hb
      rw [b2, show (k : Int) + ((tx t).length : Int) = ((k + (tx t).length : Nat) : Int) by omega] at hr
      obtain ⟨c1, c2, c3, c4, c5⟩ := rowGo_kept n (k + (tx t).length) r1 p b3 hr
      rw [hb]
      refine ⟨by simp [c1], ?_, ?_, ?_, ?_⟩
      · intro s hs
        rcases List.mem_append.1 hs with hs | hs
        · rw [List.mem_singleton] at hs; subst hs; exact b1
        · exact c2 s hs
      · rw [c3]; simp only [List.flatMap_append, List.flatMap_cons, List.flatMap_nil, List.append_nil, List.length_append]; omega
      · simp only [List.flatMap_append, List.flatMap_cons, List.flatMap_nil, List.append_nil, List.length_append]; omega
      · simp only [List.flatMap_append, List.flatMap_cons, List.flatMap_nil, List.append_nil, List.length_append]
        rw [b4, c5, List.append_assoc]
        congr 3
        omega
    · rw [if_neg h0] at h
      injection h with h1 h2
      injection h2 with h2 h3
      exact absurd h3 h0
theorem row_kept {l : List UInt8} {ls : List (List UInt8)} {k : Nat} {p : Int} (h : rowR l k = (ls, p, 0)) : ls.length ≤ 1024 ∧ fits ls = true ∧ p = (k : Int) + (rw' ls).length ∧ k + (rw' ls).length ≤ l.length ∧ l.drop k = rw' ls ++ l.drop (k + (rw' ls).length) := by
  unfold rowR at h
  rcases sizeR_cases l k 1024 with ⟨e, he, hz⟩ | ⟨j, hj, hl, hm, hz⟩
  · rw [hz] at h
    rw [if_neg (by rcases he with rfl | rfl | rfl <;> decide)] at h
    injection h with h1 h2
    injection h2 with h2 h3
    rcases he with rfl | rfl | rfl <;> cases h3
  · obtain rfl : k = j := by omega
    rw [hz, if_pos rfl] at h
    dsimp only at h
    rw [show (k : Int) + 4 = ((k + 4 : Nat) : Int) by omega] at h
    have hb4 : be 4 ((nat ((l.drop k).take 4) : Nat) : Int) = (l.drop k).take 4 := by
      have := be_nat ((l.drop k).take 4)
      rw [show ((l.drop k).take 4).length = 4 by simp; omega] at this
      exact this
    generalize nat ((l.drop k).take 4) = n at hm h hb4
    rw [show ((n : Int)).toNat = n by omega] at h
    obtain ⟨c1, c2, c3, c4, c5⟩ := rowGo_kept n (k + 4) ls p hl h
    have hlen : (rw' ls).length = 4 + (ls.flatMap tx).length := by rw [rw', List.length_append, be_length]
    refine ⟨by omega, by rw [fits, List.all_eq_true]; intro s hs; simpa using c2 s hs, by rw [c3, hlen]; omega, by rw [hlen]; omega, ?_⟩
    rw [hlen, rw', c1, hb4, show k + (4 + (ls.flatMap tx).length) = k + 4 + (ls.flatMap tx).length by omega, List.append_assoc, ← c5, show l.drop (k + 4) = (l.drop k).drop 4 by rw [List.drop_drop], List.take_append_drop]
theorem rowR_err {l : List UInt8} {a : Int} (h : (rowR l a).2.2 ≠ 0) : (rowR l a).1 = [] ∧ (rowR l a).2.1 = 0 := by
  unfold rowR at *
  by_cases h0 : (sizeR l a 1024).2.2 = 0
  · rw [if_pos h0] at h ⊢
    generalize (sizeR l a 1024).1.toNat = n at h ⊢
    generalize (sizeR l a 1024).2.1 = p at h ⊢
    clear h0
    cases n with
    | zero => exact absurd rfl h
    | succ n =>
      rw [rowGo] at h ⊢
      by_cases h1 : (bytesR l p).2.2 = 0
      · rw [if_pos h1] at h ⊢
        unfold preRow at *
        split at h
        · exact absurd rfl h
        · rename_i h2
          rw [if_neg h2]; exact ⟨rfl, rfl⟩
      · rw [if_neg h1]; exact ⟨rfl, rfl⟩
  · rw [if_neg h0]; exact ⟨rfl, rfl⟩
end Go.Cov
