import Derived.Test.YtoceipdkmafagaaWireS
/-! plain laws of 'wire': what is cut ends too early -/
namespace Go.Cov
open Go.RowKit
theorem getR_end (pre z : List UInt8) (s : Nat) (h : z.length < s) : getR (pre ++ z) (pre.length : Int) s = (0, 0, 11) := by
  rw [getR, if_neg (by simp only [List.length_append]; omega), if_pos (by simp only [List.length_append]; omega)]
theorem bytes_cut (pre t : List UInt8) (c : Nat) (ht : t.length ≤ 65536) (hc : c < (tx t).length) : bytesR (pre ++ (tx t).take c) (pre.length : Int) = ([], 0, 11) := by
  rw [tx_length] at hc
  by_cases h4 : c < 4
  · have hs : sizeR (pre ++ (tx t).take c) (pre.length : Int) 65536 = (0, 0, 11) := by
      rw [sizeR, getR_end pre _ 4 (by rw [List.length_take, tx_length]; omega)]; rfl
    rw [bytesR, hs]; rfl
  · have e : (tx t).take c = be 4 t.length ++ t.take (c - 4) := by
      rw [tx, List.take_append, be_length, List.take_of_length_le (by rw [be_length]; omega)]
    have hs := size_back pre (t.take (c - 4)) t.length 65536 ht (by omega)
    rw [e, bytesR, hs, if_pos rfl, if_pos (by simp only [List.length_append, be_length, List.length_take]; omega)]
theorem rowGo_cut : ∀ (ls : List (List UInt8)) (pre : List UInt8) (c : Nat), (∀ s ∈ ls, s.length ≤ 65536) → c < (ls.flatMap tx).length → rowGo (pre ++ (ls.flatMap tx).take c) ls.length (pre.length : Int) = ([], 0, 11)
  | [], pre, c, _, hc => by simp at hc
  | t :: ls, pre, c, h, hc => by
    rw [List.flatMap_cons] at hc ⊢
    rw [List.length_cons, rowGo, List.take_append]
    by_cases h1 : c < (tx t).length
    · rw [show c - (tx t).length = 0 by omega, List.take_zero, List.append_nil, bytes_cut pre t c (h t (List.mem_cons_self ..)) h1]
      rfl
    · rw [List.take_of_length_le (by omega)]
      rw [bytes_back pre _ t (h t (List.mem_cons_self ..)), if_pos rfl]
      dsimp only
      have hr := rowGo_cut ls (pre ++ tx t) (c - (tx t).length) (fun s hs => h s (List.mem_cons_of_mem _ hs)) (by rw [List.length_append] at hc; omega)
      rw [show pre ++ (tx t ++ (ls.flatMap tx).take (c - (tx t).length)) = pre ++ tx t ++ (ls.flatMap tx).take (c - (tx t).length) by simp, show (pre.length : Int) + ((tx t).length : Int) = ((pre ++ tx t).length : Int) by rw [List.length_append]; omega, hr]
      rfl
theorem row_cut (ls : List (List UInt8)) (c : Nat) (h : ls.length ≤ 1024) (hf : fits ls = true) (hc : c < (rw' ls).length) : rowR ((rw' ls).take c) 0 = ([], 0, 11) := by
  have hlen : (rw' ls).length = 4 + (ls.flatMap tx).length := by rw [rw', List.length_append, be_length]
  by_cases h4 : c < 4
  · have hs : sizeR ((rw' ls).take c) 0 1024 = (0, 0, 11) := by
      have := getR_end [] ((rw' ls).take c) 4 (by rw [List.length_take]; omega)
      rw [sizeR]
      simp only [List.nil_append, List.length_nil] at this
      rw [show (0 : Int) = ((0 : Nat) : Int) from rfl, this]; rfl
    rw [rowR, hs]; rfl
  · have e : (rw' ls).take c = [] ++ (be 4 ls.length ++ (ls.flatMap tx).take (c - 4)) := by
      rw [rw', List.take_append, be_length, List.take_of_length_le (by rw [be_length]; omega)]; rfl
    have hs := size_back [] ((ls.flatMap tx).take (c - 4)) ls.length 1024 h (by omega)
    have hr := rowGo_cut ls (be 4 ls.length) (c - 4) (fits_mem hf) (by omega)
    rw [be_length] at hr
    have hs' : sizeR ([] ++ (be 4 ls.length ++ (ls.flatMap tx).take (c - 4))) 0 1024 = ((ls.length : Int), 4, 0) := hs
    rw [e, rowR, hs', if_pos rfl]
    exact hr
theorem num_cut (n : Int) (c : Nat) (hc : c < 8) : getR ((be 8 n).take c) 0 8 = (0, 0, 11) := by
  have := getR_end [] ((be 8 n).take c) 8 (by rw [List.length_take, be_length]; omega)
  simpa using this
theorem text_cut (t : List UInt8) (c : Nat) (ht : t.length ≤ 65536) (hc : c < (tx t).length) : bytesR ((tx t).take c) 0 = ([], 0, 11) := by
  have := bytes_cut [] t c ht hc
  simpa using this
end Go.Cov
