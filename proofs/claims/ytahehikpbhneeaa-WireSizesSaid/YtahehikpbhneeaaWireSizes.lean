import Derived.Test.YtahehikpbhneeaaWireN
import Derived.Test.YtahehikpbhneeaaTurn
namespace Go.Proofs.Ytahehikpbhneeaa
open Go.RowKit Go.Cov
set_option maxRecDepth 100000 in
set_option maxHeartbeats 3200000 in
theorem sizes_law {A B : Option Addr} {c d : Nat} {l : List UInt8} {ls : List (List UInt8)} {w : World} (h : Rd w A (l.map byt)) (g : RowRd w B ls) (hls : ls.length ≤ 140737488351236) (n : Int) :
    Calls Try.prog 4 #[.int .i64 n, .slice A l.length c, .slice B ls.length d] w fun e w' => e = .returned (.bool true) ∧ Below w.heap.size w w' := by
  obtain ⟨T, e1, hpb, hT⟩ : ∃ (T : List UInt8) (e1 : Int), putBytesR l = (T, e1) ∧ (l.length ≤ 65536 ∧ e1 = 0 ∧ T.length = l.length + 4 ∨ 65536 < l.length ∧ e1 = 2) := by
    by_cases hx : l.length ≤ 65536
    · exact ⟨_, _, by rw [putBytesR, if_pos hx], .inl ⟨hx, rfl, by rw [tx_length]; omega⟩⟩
    · exact ⟨_, _, by rw [putBytesR, if_neg hx], .inr ⟨by omega, rfl⟩⟩
  obtain ⟨U, e2, hpr, hU⟩ : ∃ (U : List UInt8) (e2 : Int), putRowR ls = (U, e2) ∧ (e2 = 2 ∧ U = [] ∨ e2 = 0 ∧ U = rw' ls ∧ ls.length ≤ 1024 ∧ fits ls = true) := by
    by_cases hx : ls.length ≤ 1024 ∧ fits ls = true
    · exact ⟨_, _, by rw [putRowR, if_pos hx], .inr ⟨rfl, rfl, hx.1, hx.2⟩⟩
    · exact ⟨_, _, by rw [putRowR, if_neg hx], .inl ⟨rfl, rfl⟩⟩
  have k1 := fun W (hW : Rd W A (l.map byt)) => putbytes_any (c := c) hW
  have k2 := fun W (hW : RowRd W B ls) => putrow_any (c := d) hW hls
  rw [hpb] at k1
  rw [hpr] at k2
  dsimp only at k1 k2
  have K1 := hid k1
  have K2 := hid k2
  clear k1 k2 hpb hpr
  rcases hT with ⟨hx, rfl, hT⟩ | ⟨hx, rfl⟩
  all_goals rcases hU with ⟨rfl, rfl⟩ | ⟨rfl, hU, hm, hf⟩
  · have q1 : ((T.length : Int) != (l.length : Int) + 4) = false := by rw [hT]; simp
    have HT := hid hT
    clear hT
    go_enter Try.func4, Try.ntmps4
    go_wp2_with fail
    refine (head_any w).mono ?_
    rintro e w1 ⟨rfl, hb1⟩
    go_wp2_with fail
    refine (K1.out _ (h.below hb1)).mono ?_
    rintro e w2 ⟨v2, rfl, hown2, hb2⟩
    have b2 := below_step hb1 hb2
    obtain ⟨A2, c2, rfl, hc2, _⟩ := own_shape hown2
    go_wp2_with fail
    refine (K2.out _ (g.below b2)).mono ?_
    rintro e w3 ⟨v3, rfl, hown3, hb3⟩
    have b3 := below_step b2 hb3
    obtain ⟨A3, c3, rfl, hc3, _⟩ := own_shape hown3
    go_wp2_with fail
    go_ret
    exact ⟨rfl, b3⟩
  · have q1 : ((T.length : Int) != (l.length : Int) + 4) = false := by rw [hT]; simp
    have HT := hid hT
    clear hT
    have Hu := hid hU
    clear hU
    go_enter Try.func4, Try.ntmps4
    go_wp2_with fail
    refine (head_any w).mono ?_
    rintro e w1 ⟨rfl, hb1⟩
    go_wp2_with fail
    refine (K1.out _ (h.below hb1)).mono ?_
    rintro e w2 ⟨v2, rfl, hown2, hb2⟩
    have b2 := below_step hb1 hb2
    obtain ⟨A2, c2, rfl, hc2, _⟩ := own_shape hown2
    go_wp2_with fail
    refine (K2.out _ (g.below b2)).mono ?_
    rintro e w3 ⟨v3, rfl, hown3, hb3⟩
    have b3 := below_step b2 hb3
    obtain ⟨A3, c3, rfl, hc3, _⟩ := own_shape hown3
    go_wp2_with fail
    go_loopw [12, 13] (fun m i W => ∃ (k : Nat), k ≤ ls.length ∧ i = .int .i64 k ∧ m = .int .i64 ((rwTo ls k).length : Nat) ∧ W = w3) (fun _ i _ => ls.length - (intOf i).toNat)
    case atStart => exact ⟨0, Nat.zero_le _, rfl, by rw [rwTo_zero, be_length]; rfl, rfl⟩
    case round =>
      obtain ⟨k, hk, rfl, rfl, hwr⟩ := hrel
      have hb : Below w.heap.size w wr := by subst hwr; exact b3
      have Hw := hid hwr
      clear hwr
      by_cases hlt : k < ls.length
      · obtain ⟨ad, C, cc, rfl, hcell, hcc, hcm, hrr⟩ := (g.below hb).at' k hlt
        have hle := rwTo_le ls k hk (fun i hi _ => fits_at hf i hi)
        have hlk := fits_at hf k hlt
        have hs := rwTo_succ ls k hlt
        have hs2 : ((rwTo ls (k + 1)).length : Int) = ((rwTo ls k).length : Int) + 4 + (ls[k].length : Int) := by
          rw [hs, List.length_append, tx_length]; omega
        have Hs2 := hid hs2
        clear hs hs2
        generalize (rwTo ls k).length = M at hle Hs2
        generalize ls[k] = t at hcell hlk Hs2 hcc
        have e1 := wrap_of ((M : Int) + 4) (by omega) (by omega)
        have e2 := wrap_of ((M : Int) + 4 + (t.length : Int)) (by omega) (by omega)
        go_wp2_with fail
        go_roundw
        case rel => exact ⟨k + 1, by omega, by go_num, by rw [Hs2.out], Hw.out⟩
        case measure => simp [intOf]; omega
      · obtain rfl : k = ls.length := by omega
        rw [rwTo_all, ← Hu.out]
        go_wp2_with fail
        refine (putnum_any n wr).mono ?_
        rintro e w4 ⟨v4, rfl, hown4, hb4⟩
        obtain ⟨A4, c4, rfl, hc4, _⟩ := own_shape hown4
        go_wp2_with fail
        refine (putbool_any _ w4).mono ?_
        rintro e w5 ⟨v5, rfl, hown5, hb5⟩
        obtain ⟨A5, c5, rfl, hc5, _⟩ := own_shape hown5
        go_wp2_with fail
        go_ret
        exact ⟨rfl, below_step (below_step hb hb4) hb5⟩
  · go_enter Try.func4, Try.ntmps4
    go_wp2_with fail
    refine (head_any w).mono ?_
    rintro e w1 ⟨rfl, hb1⟩
    go_wp2_with fail
    refine (K1.out _ (h.below hb1)).mono ?_
    rintro e w2 ⟨v2, rfl, hown2, hb2⟩
    have b2 := below_step hb1 hb2
    obtain ⟨A2, c2, rfl, hc2, _⟩ := own_shape hown2
    go_wp2_with fail
    refine (K2.out _ (g.below b2)).mono ?_
    rintro e w3 ⟨v3, rfl, hown3, hb3⟩
    have b3 := below_step b2 hb3
    obtain ⟨A3, c3, rfl, hc3, _⟩ := own_shape hown3
    go_wp2_with fail
    go_ret
    exact ⟨rfl, b3⟩
  · have Hu := hid hU
    clear hU
    go_enter Try.func4, Try.ntmps4
    go_wp2_with fail
    refine (head_any w).mono ?_
    rintro e w1 ⟨rfl, hb1⟩
    go_wp2_with fail
    refine (K1.out _ (h.below hb1)).mono ?_
    rintro e w2 ⟨v2, rfl, hown2, hb2⟩
    have b2 := below_step hb1 hb2
    obtain ⟨A2, c2, rfl, hc2, _⟩ := own_shape hown2
    go_wp2_with fail
    refine (K2.out _ (g.below b2)).mono ?_
    rintro e w3 ⟨v3, rfl, hown3, hb3⟩
    have b3 := below_step b2 hb3
    obtain ⟨A3, c3, rfl, hc3, _⟩ := own_shape hown3
    go_wp2_with fail
    go_loopw [12, 13] (fun m i W => ∃ (k : Nat), k ≤ ls.length ∧ i = .int .i64 k ∧ m = .int .i64 ((rwTo ls k).length : Nat) ∧ W = w3) (fun _ i _ => ls.length - (intOf i).toNat)
    case atStart => exact ⟨0, Nat.zero_le _, rfl, by rw [rwTo_zero, be_length]; rfl, rfl⟩
    case round =>
      obtain ⟨k, hk, rfl, rfl, hwr⟩ := hrel
      have hb : Below w.heap.size w wr := by subst hwr; exact b3
      have Hw := hid hwr
      clear hwr
      by_cases hlt : k < ls.length
      · obtain ⟨ad, C, cc, rfl, hcell, hcc, hcm, hrr⟩ := (g.below hb).at' k hlt
        have hle := rwTo_le ls k hk (fun i hi _ => fits_at hf i hi)
        have hlk := fits_at hf k hlt
        have hs := rwTo_succ ls k hlt
        have hs2 : ((rwTo ls (k + 1)).length : Int) = ((rwTo ls k).length : Int) + 4 + (ls[k].length : Int) := by
          rw [hs, List.length_append, tx_length]; omega
        have Hs2 := hid hs2
        clear hs hs2
        generalize (rwTo ls k).length = M at hle Hs2
        generalize ls[k] = t at hcell hlk Hs2 hcc
        have e1 := wrap_of ((M : Int) + 4) (by omega) (by omega)
        have e2 := wrap_of ((M : Int) + 4 + (t.length : Int)) (by omega) (by omega)
        go_wp2_with fail
        go_roundw
        case rel => exact ⟨k + 1, by omega, by go_num, by rw [Hs2.out], Hw.out⟩
        case measure => simp [intOf]; omega
      · obtain rfl : k = ls.length := by omega
        rw [rwTo_all, ← Hu.out]
        go_wp2_with fail
        refine (putnum_any n wr).mono ?_
        rintro e w4 ⟨v4, rfl, hown4, hb4⟩
        obtain ⟨A4, c4, rfl, hc4, _⟩ := own_shape hown4
        go_wp2_with fail
        refine (putbool_any _ w4).mono ?_
        rintro e w5 ⟨v5, rfl, hown5, hb5⟩
        obtain ⟨A5, c5, rfl, hc5, _⟩ := own_shape hown5
        go_wp2_with fail
        go_ret
        exact ⟨rfl, below_step (below_step hb hb4) hb5⟩
end Go.Proofs.Ytahehikpbhneeaa
