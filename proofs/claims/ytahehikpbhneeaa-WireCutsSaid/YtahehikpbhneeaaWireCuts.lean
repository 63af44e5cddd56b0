import Derived.Test.YtahehikpbhneeaaWireN
import Derived.Test.YtahehikpbhneeaaTurn
import Derived.Test.YtahehikpbhneeaaWireT
namespace Go.Proofs.Ytahehikpbhneeaa
open Go.RowKit Go.Cov
theorem cut_at (cut : Int) (n : Nat) (h0 : 0 ≤ cut) (h1 : cut < 4294967296) (hn : 0 < n) (hn2 : n < 4294967296) : ∃ k : Nat, k < n ∧ IntKind.u32.wrap (n : Int) = (n : Int) ∧ cut.tmod (n : Int) = (k : Int) := by
  obtain ⟨c, rfl⟩ : ∃ c : Nat, cut = c := ⟨cut.toNat, by omega⟩
  refine ⟨c % n, Nat.mod_lt _ hn, ?_, ?_⟩
  · simp [IntKind.wrap, IntKind.signed, IntKind.bits]; omega
  · rfl
set_option maxRecDepth 100000 in
set_option maxHeartbeats 3200000 in
theorem cuts_law {B : Option Addr} {d : Nat} {ls : List (List UInt8)} {w : World} (g : RowRd w B ls) (hls : ls.length ≤ 140737488351236) (n cut : Int) (hcut : 0 ≤ cut ∧ cut < 4294967296) :
    Calls Try.prog 7 #[.slice B ls.length d, .int .i64 n, .int .u32 cut] w fun e w' => e = .returned (.bool true) ∧ Below w.heap.size w w' := by
  obtain ⟨hc1, hc2⟩ := hcut
  have k2 := fun W (hW : RowRd W B ls) => putrow_any (c := d) hW hls
  by_cases hx : ls.length ≤ 1024 ∧ fits ls = true
  · have hpr : putRowR ls = (rw' ls, 0) := by rw [putRowR, if_pos hx]
    rw [hpr] at k2
    dsimp only at k2
    have K2 := hid k2
    clear k2 hpr
    have hlen : 4 ≤ (rw' ls).length := by rw [rw', List.length_append, be_length]; omega
    by_cases hbig : 1000000 < (rw' ls).length
    · generalize rw' ls = U at K2 hlen hbig
      have hz : ((U.length : Int) == 0) = false := beq_eq_false_iff_ne.2 (by omega)
      go_enter Try.func7, Try.ntmps7
      go_wp2_with fail
      refine (head_any w).mono ?_
      rintro e w1 ⟨rfl, hb1⟩
      go_wp2_with fail
      refine (K2.out _ (g.below hb1)).mono ?_
      rintro e w2 ⟨v2, rfl, own2, hb2⟩
      obtain ⟨A2, c2, rfl, hc2, _⟩ := own_shape own2
      go_wp2_with fail
      go_ret
      exact ⟨rfl, below_step hb1 hb2⟩
    · have hz : (((rw' ls).length : Int) == 0) = false := beq_eq_false_iff_ne.2 (by omega)
      obtain ⟨k, hk, ek1, ek2⟩ := cut_at cut (rw' ls).length hc1 hc2 (by omega) (by omega)
      have hj : (cut % 8).toNat < 8 := by omega
      have hrow := row_cut ls k hx.1 hx.2 hk
      have hnum := num_cut n _ hj
      have ht1 : ((rw' ls).take k).length = k := by rw [List.length_take]; omega
      have ht2 : ((be 8 n).take (cut % 8).toNat).length = (cut % 8).toNat := by rw [List.length_take, be_length]; omega
      have c1 := fun A' c' W (hW : Rd W A' (((rw' ls).take k).map byt)) (hc : k ≤ c') => row_n k ht1 hW hc (by omega) 0
      have c2 := fun A' c' W (hW : Rd W A' (((be 8 n).take (cut % 8).toNat).map byt)) (hc : (cut % 8).toNat ≤ c') => num_n _ ht2 hW hc (by omega) 0
      rw [hrow] at c1
      rw [hnum] at c2
      dsimp only at c1 c2
      have C1 := hid c1
      have C2 := hid c2
      clear c1 c2 hrow hnum
      generalize rw' ls = U at K2 hlen hbig hz hk ek1 ek2 C1 ht1
      have Ht1 := hid ht1
      have Ht2 := hid ht2
      clear ht1 ht2
      by_cases h0 : ls.length = 0
      · have h0b : ((ls.length : Int) == 0) = true := by rw [h0]; rfl
        have H0 := hid h0
        clear h0
        go_enter Try.func7, Try.ntmps7
        go_wp2_with fail
        refine (head_any w).mono ?_
        rintro e w1 ⟨rfl, hb1⟩
        go_wp2_with fail
        refine (K2.out _ (g.below hb1)).mono ?_
        rintro e w2 ⟨v2, rfl, own2, hb2⟩
        obtain ⟨A2, c2, rfl, hc2', _⟩ := own_shape own2
        have b2 := below_step hb1 hb2
        go_wp2_with fail
        refine (C1.out _ _ _ (by rw [List.map_take]; exact (own_rd own2).take k) (by omega)).mono ?_
        rintro e w3 ⟨v3, rfl, own3, hb3⟩
        have b3 := below_step b2 hb3
        obtain ⟨A3, c3, rfl, _⟩ := own3.rd
        go_wp2_with fail
        refine (putnum_any n _).mono ?_
        rintro e w4 ⟨v4, rfl, own4, hb4⟩
        obtain ⟨A4, c4, rfl, hc4, _⟩ := own_shape own4
        have b4 := below_step b3 hb4
        go_wp2_with fail
        refine (C2.out _ _ _ (by rw [List.map_take]; exact (own_rd own4).take _) (by omega)).mono ?_
        rintro e w5 ⟨rfl, rfl⟩
        go_wp2_with fail
        go_ret
        exact ⟨rfl, b4⟩
      · have h0b : ((ls.length : Int) == 0) = false := beq_eq_false_iff_ne.2 (by omega)
        have hpos : 0 < ls.length := by omega
        have hposi : (0 : Int) < (ls.length : Int) := by omega
        obtain ⟨ad, C, cc, rfl, hcell, hcc, hcm, hr0⟩ := g.at' 0 hpos
        have hadd : ad.add 0 = ad := by simp [Addr.add]
        rw [hadd] at hcell
        have hlt0 := fits_at hx.2 0 hpos
        have htl := tx_length ls[0]
        obtain ⟨i, hi, ei1, ei2⟩ := cut_at cut (tx ls[0]).length hc1 hc2 (by omega) (by omega)
        have htc := text_cut ls[0] i hlt0 hi
        have ht3 : ((tx ls[0]).take i).length = i := by rw [List.length_take]; omega
        have c3 := fun A' c' W (hW : Rd W A' (((tx ls[0]).take i).map byt)) (hc : i ≤ c') => bytes_n i ht3 hW hc (by omega) 0
        rw [htc] at c3
        dsimp only at c3
        have p3 := fun W (hW : Rd W C (ls[0].map byt)) => putbytes_ok (c := cc) hW hlt0
        have C3 := hid c3
        have P3 := hid p3
        clear c3 p3 htc
        generalize tx ls[0] = T at hi ei1 ei2 ht3 C3 P3 htl
        have Ht3 := hid ht3
        have hT4 : 4 ≤ T.length := by omega
        have hT5 : T.length ≤ 65540 := by omega
        have hz3 : ((T.length : Int) == 0) = false := beq_eq_false_iff_ne.2 (by omega)
        have Htl := hid htl
        clear ht3 htl hadd
        generalize ls[0] = t at hcell hcc hr0 hlt0 Htl P3
        have hcell1 : ∀ W, Below w.heap.size w W → W.cell? ad = some (.slice C t.length cc) := fun W hW => (hW.cell (cell_lt hcell)).trans hcell
        go_enter Try.func7, Try.ntmps7
        go_wp2_with fail
        refine (head_any w).mono ?_
        rintro e w1 ⟨rfl, hb1⟩
        go_wp2_with fail
        refine (K2.out _ (g.below hb1)).mono ?_
        rintro e w2 ⟨v2, rfl, own2, hb2⟩
        obtain ⟨A2, c2, rfl, hc2', _⟩ := own_shape own2
        have b2 := below_step hb1 hb2
        go_wp2_with fail
        refine (C1.out _ _ _ (by rw [List.map_take]; exact (own_rd own2).take k) (by omega)).mono ?_
        rintro e w3 ⟨v3, rfl, own3, hb3⟩
        have b3 := below_step b2 hb3
        obtain ⟨A3, c3, rfl, _⟩ := own3.rd
        go_wp2_with fail
        refine (putnum_any n _).mono ?_
        rintro e w4 ⟨v4, rfl, own4, hb4⟩
        obtain ⟨A4, c4, rfl, hc4, _⟩ := own_shape own4
        have b4 := below_step b3 hb4
        go_wp2_with fail
        refine (C2.out _ _ _ (by rw [List.map_take]; exact (own_rd own4).take _) (by omega)).mono ?_
        rintro e w5 ⟨rfl, rfl⟩
        have hcell4 := hcell1 _ b4
        go_wp2_with fail
        refine (P3.out _ (hr0.below b4)).mono ?_
        rintro e w6 ⟨v6, rfl, own6, hb6⟩
        obtain ⟨A6, c6, rfl, hc6, _⟩ := own_shape own6
        have b6 := below_step b4 hb6
        go_wp2_with fail
        refine (C3.out _ _ _ (by rw [List.map_take]; exact (own_rd own6).take i) (by omega)).mono ?_
        rintro e w7 ⟨v7, rfl, own7, hb7⟩
        obtain ⟨A7, c7, rfl, _⟩ := own_shape own7
        go_wp2_with fail
        go_ret
        exact ⟨rfl, below_step b6 hb7⟩
  · have hpr : putRowR ls = ([], 2) := by rw [putRowR, if_neg hx]
    rw [hpr] at k2
    dsimp only at k2
    have K2 := hid k2
    clear k2 hpr
    go_enter Try.func7, Try.ntmps7
    go_wp2_with fail
    refine (head_any w).mono ?_
    rintro e w1 ⟨rfl, hb1⟩
    go_wp2_with fail
    refine (K2.out _ (g.below hb1)).mono ?_
    rintro e w2 ⟨v2, rfl, own2, hb2⟩
    go_wp2_with fail
    go_ret
    exact ⟨rfl, below_step hb1 hb2⟩
end Go.Proofs.Ytahehikpbhneeaa
