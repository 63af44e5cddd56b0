import Derived.Test.YtahehikpbhneeaaWireN
import Derived.Test.YtahehikpbhneeaaTurn
import Derived.Test.YtahehikpbhneeaaWireS
namespace Go.Proofs.Ytahehikpbhneeaa
open Go.RowKit Go.Cov
set_option maxRecDepth 100000 in
set_option maxHeartbeats 6400000 in
theorem back_law {A0 A1 B A5 : Option Addr} {c0 c1 d c5 : Nat} {ah s be' : List UInt8} {ls : List (List UInt8)} {w : World} (hah : Rd w A0 (ah.map byt)) (hs : Rd w A1 (s.map byt)) (g : RowRd w B ls) (hls : ls.length ≤ 140737488351236) (hbe : Rd w A5 (be'.map byt)) (n : Int) (is : Bool)
    (hn : -9223372036854775808 ≤ n ∧ n < 9223372036854775808) :
    Calls Try.prog 8 #[.slice A0 ah.length c0, .int .i64 n, .bool is, .slice A1 s.length c1, .slice B ls.length d, .slice A5 be'.length c5] w fun e w' => e = .returned (.bool true) ∧ Below w.heap.size w w' := by
  have k1 := fun W (hW : Rd W A1 (s.map byt)) => putbytes_any (c := c1) hW
  have k2 := fun W (hW : RowRd W B ls) => putrow_any (c := d) hW hls
  by_cases hx : s.length ≤ 65536
  · by_cases hy : ls.length ≤ 1024 ∧ fits ls = true
    · rw [show putBytesR s = (tx s, 0) by rw [putBytesR, if_pos hx]] at k1
      rw [show putRowR ls = (rw' ls, 0) by rw [putRowR, if_pos hy]] at k2
      dsimp only at k1 k2
      obtain ⟨hy1, hy2⟩ := hy
      have hlt : (tx s).length ≤ 65540 := by rw [tx_length]; omega
      by_cases hbig : ah.length ≤ 100000 ∧ be'.length ≤ 100000 ∧ (rw' ls).length ≤ 1000000
      · obtain ⟨hbig1, hbig2, hbig3⟩ := hbig
        obtain ⟨Y, hY⟩ : ∃ Y, Y = ah ++ (be 8 n ++ ([tb is] ++ (tx s ++ (rw' ls ++ be')))) := ⟨_, rfl⟩
        obtain ⟨p1, hp1⟩ : ∃ p1 : Int, p1 = (ah.length : Int) + 8 := ⟨_, rfl⟩
        obtain ⟨p2, hp2⟩ : ∃ p2 : Int, p2 = p1 + 1 := ⟨_, rfl⟩
        obtain ⟨p3, hp3⟩ : ∃ p3 : Int, p3 = p2 + (tx s).length := ⟨_, rfl⟩
        obtain ⟨p4, hp4⟩ : ∃ p4 : Int, p4 = p3 + (rw' ls).length := ⟨_, rfl⟩
        obtain ⟨Ly, hLy⟩ : ∃ Ly : Nat, ah.length + 8 + 1 + (tx s).length + (rw' ls).length + be'.length = Ly := ⟨_, rfl⟩
        have hlen : Y.length = Ly := by rw [hY]; simp only [List.length_append, be_length, List.length_cons, List.length_nil]; omega
        have r1 : getR Y (ah.length : Int) 8 = (n, p1, 0) := by rw [hY, hp1]; exact num_back ah _ n hn.1 hn.2
        have r2 : boolR Y p1 = (is, p2, 0) := by
          have e1 : Y = (ah ++ be 8 n) ++ ([tb is] ++ (tx s ++ (rw' ls ++ be'))) := by rw [hY]; simp
          have e2 : p1 = ((ah ++ be 8 n).length : Int) := by rw [hp1, List.length_append, be_length]; omega
          rw [hp2, e1, e2]; exact bool_back _ _ is
        have r3 : bytesR Y p2 = (s, p3, 0) := by
          have e1 : Y = (ah ++ be 8 n ++ [tb is]) ++ (tx s ++ (rw' ls ++ be')) := by rw [hY]; simp
          have e2 : p2 = ((ah ++ be 8 n ++ [tb is]).length : Int) := by rw [hp2, hp1]; simp only [List.length_append, be_length, List.length_cons, List.length_nil]; omega
          rw [hp3, e1, e2]; exact bytes_back _ _ s hx
        have r4 : rowR Y p3 = (ls, p4, 0) := by
          have e1 : Y = (ah ++ be 8 n ++ [tb is] ++ tx s) ++ (rw' ls ++ be') := by rw [hY]; simp
          have e2 : p3 = ((ah ++ be 8 n ++ [tb is] ++ tx s).length : Int) := by rw [hp3, hp2, hp1]; simp only [List.length_append, be_length, List.length_cons, List.length_nil]; omega
          rw [hp4, e1, e2]; exact row_back _ _ ls hy1 hy2
        have hYm : Y.map byt = ((((ah.map byt ++ (be 8 n).map byt) ++ [tb is].map byt) ++ (tx s).map byt) ++ (rw' ls).map byt) ++ be'.map byt := by rw [hY]; simp
        have hLb : Ly ≤ 2000000 := by omega
        have q0 := wrap_of ((Ly : Int) - (be'.length : Int)) (by omega) (by omega)
        have q1 : (p4 == (Ly : Int) - (be'.length : Int)) = true := beq_iff_eq.2 (by omega)
        have j1 := fun A' c' W (hW : Rd W A' (Y.map byt)) (hc : Ly ≤ c') => num_n Ly hlen hW hc (by omega) (ah.length : Int)
        have j2 := fun A' c' W (hW : Rd W A' (Y.map byt)) (hc : Ly ≤ c') => bool_n Ly hlen hW hc (by omega) p1
        have j3 := fun A' c' W (hW : Rd W A' (Y.map byt)) (hc : Ly ≤ c') => bytes_n Ly hlen hW hc (by omega) p2
        have j4 := fun A' c' W (hW : Rd W A' (Y.map byt)) (hc : Ly ≤ c') => row_n Ly hlen hW hc (by omega) p3
        rw [r1] at j1
        rw [r2] at j2
        rw [r3] at j3
        rw [r4] at j4
        dsimp only at j1 j2 j3 j4
        have J1 := hid j1
        have J2 := hid j2
        have J3 := hid j3
        have J4 := hid j4
        have HYm := hid hYm
        have HLy := hid hLy
        clear j1 j2 j3 j4 r1 r2 r3 r4 hYm hLy hlen hp1 hp2 hp3 hp4 hY
        have K1 := hid k1
        have K2 := hid k2
        clear k1 k2
        have hw8 := be_length 8 n
        have Hw8 := hid hw8
        clear hw8
        have hn1 : (n != n) = false := by simp
        have hn2 : (is != is) = false := by simp
        have hn3 := str_eq s
        have hn4 : decide (ls = ls) = true := by simp
        generalize rw' ls = U at K2 hbig3 HYm HLy
        generalize tx s = T at K1 hlt HYm HLy
        go_enter Try.func8, Try.ntmps8
        go_wp2_with fail
        refine (head_any w).mono ?_
        rintro e w1 ⟨rfl, hb1⟩
        go_wp2_with fail
        refine (K1.out _ (hs.below hb1)).mono ?_
        rintro e w2 ⟨v2, rfl, own2, hb2⟩
        obtain ⟨A2, c2, rfl, hc2, _⟩ := own_shape own2
        have b2 := below_step hb1 hb2
        go_wp2_with fail
        refine (K2.out _ (g.below b2)).mono ?_
        rintro e w3 ⟨v3, rfl, own3, hb3⟩
        obtain ⟨A3, c3, rfl, hc3, _⟩ := own_shape own3
        have b3 := below_step b2 hb3
        have hown : (w3.alloc (.cells #[] 5)).ownsRow w3.heap.size 5 1 (.slice (some ⟨w3.heap.size, 0, none⟩) 0 0) 0 [] := World.ownsRow_made w3 #[] 0 (Nat.le_refl _) (by simp [maxLen]) rfl
        have hb3' := below_alloc w3 (.cells #[] 5)
        go_wp2_with (at_builtin; refine wpList_app rfl (.tmp 57) (.tmp 58) 22 rfl w3.heap.size 5 Try.underlying22 infoB rfl (by decide) _ _ _ rfl hown A0 ah.length c0 ((ah).map byt) rfl (by simp) (hah.below (below_step b3 hb3')) (byt_one _) (by omega) (by omega) (by simp) ?_; intro v4 w4 hin4 hg4 hat4; simp only [Nat.zero_add, List.nil_append] at hin4; have hb4 : Below w3.heap.size w3 w4 := hb3'.grown hg4 hb3'.size (by intro k hk; exact (own_lt hown hk).1))
        refine (putnum_any n _).mono ?_
        rintro e w5 ⟨v5, rfl, own5, hb5'⟩
        obtain ⟨B5, d5, rfl, hd5, _⟩ := own_shape own5
        have hin5 := own_below hin4 hb5'
        have hb5 := hb4.trans (hb5'.mono hb4.size)
        go_wp2_with (at_builtin; refine wpList_app rfl (.tmp 59) (.tmp 61) 22 rfl w3.heap.size 5 Try.underlying22 infoB rfl (by decide) _ _ _ rfl hin5 B5 8 d5 ((be 8 n).map byt) rfl (by simp [be_length]) (own_rd own5) (byt_one _) (by omega) (by omega) (hb5.size) ?_; intro v6 w6 hin6 hg6 hat6; have hb6 : Below w3.heap.size w3 w6 := hb5.grown hg6 hb5.size (by intro k hk; exact (own_lt hin5 hk).1))
        refine (putbool_any is _).mono ?_
        rintro e w7 ⟨v7, rfl, own7, hb7'⟩
        obtain ⟨B7, d7, rfl, hd7, _⟩ := own_shape own7
        have hin7 := own_below hin6 hb7'
        have hb7 := hb6.trans (hb7'.mono hb6.size)
        go_wp2_with first | (at_builtin; refine wpList_app rfl (.tmp 63) (.tmp 65) 22 rfl w3.heap.size 5 Try.underlying22 infoB rfl (by decide) _ _ _ rfl hin7 B7 1 d7 (([tb is]).map byt) rfl (by simp) (own_rd own7) (byt_one _) (by omega) (by omega) (hb7.size) ?_; intro v8 w8 hin8 hg8 hat8; have hb8 : Below w3.heap.size w3 w8 := hb7.grown hg8 hb7.size (by intro k hk; exact (own_lt hin7 hk).1)) | (at_builtin; refine wpList_app rfl (.tmp 66) (.tmp 67) 22 rfl w3.heap.size 5 Try.underlying22 infoB rfl (by decide) _ _ _ rfl hin8 A2 T.length c2 ((T).map byt) rfl (by simp) ((own_rd own2).below (below_step hb3 hb8)) (byt_one _) (by omega) (by omega) (hb8.size) ?_; intro v9 w9 hin9 hg9 hat9; have hb9 : Below w3.heap.size w3 w9 := hb8.grown hg9 hb8.size (by intro k hk; exact (own_lt hin8 hk).1)) | (at_builtin; refine wpList_app rfl (.tmp 68) (.tmp 69) 22 rfl w3.heap.size 5 Try.underlying22 infoB rfl (by decide) _ _ _ rfl hin9 A3 U.length c3 ((U).map byt) rfl (by simp) ((own_rd own3).below hb9) (byt_one _) (by omega) (by omega) (hb9.size) ?_; intro vA wA hinA hgA hatA; have hbA : Below w3.heap.size w3 wA := hb9.grown hgA hb9.size (by intro k hk; exact (own_lt hin9 hk).1)) | (at_builtin; refine wpList_app rfl (.tmp 70) (.tmp 71) 22 rfl w3.heap.size 5 Try.underlying22 infoB rfl (by decide) _ _ _ rfl hinA A5 be'.length c5 ((be').map byt) rfl (by simp) (hbe.below (below_step b3 hbA)) (byt_one _) (by omega) (by omega) (hbA.size) ?_; intro vB wB hinB hgB hatB; have hbB : Below w3.heap.size w3 wB := hbA.grown hgB hbA.size (by intro k hk; exact (own_lt hinA hk).1))
        rw [← HYm.out, HLy.out] at hinB
        obtain ⟨AB, cB, rfl, hcB, _⟩ := own_shape hinB
        have rY := own_rd hinB
        have bB := below_step b3 hbB
        refine (J1.out _ _ _ rY hcB).mono ?_
        rintro e w' ⟨rfl, rfl⟩
        go_wp2_with fail
        refine (J2.out _ _ _ rY hcB).mono ?_
        rintro e w' ⟨rfl, rfl⟩
        go_wp2_with fail
        refine (J3.out _ _ _ rY hcB).mono ?_
        rintro e wC ⟨vC, rfl, ownC, hbC⟩
        obtain ⟨AC, cC, rfl, hcC, _⟩ := own_shape ownC
        have bC := below_step bB hbC
        have cvC := conv_bs (P := Try.prog) Try.underlying22 Try.underlying5 Try.underlying9 (own_rd ownC) cC
        have cvs := conv_bs (P := Try.prog) Try.underlying22 Try.underlying5 Try.underlying9 (hs.below bC) c1
        generalize str s = ss at cvC cvs hn3
        go_wp2_with fail
        refine (J4.out _ _ _ (rY.below hbC) hcB).mono ?_
        rintro e wD ⟨vD, rfl, ownD, hbD⟩
        have bD := below_step bC hbD
        obtain ⟨AD, cD, rfl, hcD, _, rD⟩ := ownD.rd
        go_wp2_with fail
        refine (same_any rD (g.below bD) (by omega) hls).mono ?_
        rintro e wE ⟨rfl, nd, rfl⟩
        go_wp2_with fail
        go_ret
        exact ⟨rfl, below_drewN bD nd⟩
      · have K1 := hid k1
        have K2 := hid k2
        clear k1 k2
        generalize rw' ls = U at K2 hbig
        generalize tx s = T at K1 hlt
        rcases (show 100000 < ah.length ∨ 100000 < be'.length ∨ 1000000 < U.length by omega) with h1 | h1 | h1
        · clear hbig
          go_enter Try.func8, Try.ntmps8
          go_wp2_with fail
          refine (head_any w).mono ?_
          rintro e w1 ⟨rfl, hb1⟩
          go_wp2_with fail
          refine (K1.out _ (hs.below hb1)).mono ?_
          rintro e w2 ⟨v2, rfl, own2, hb2⟩
          obtain ⟨A2, c2, rfl, hc2, _⟩ := own_shape own2
          have b2 := below_step hb1 hb2
          go_wp2_with fail
          refine (K2.out _ (g.below b2)).mono ?_
          rintro e w3 ⟨v3, rfl, own3, hb3⟩
          obtain ⟨A3, c3, rfl, hc3, _⟩ := own_shape own3
          have b3 := below_step b2 hb3
          go_wp2_with fail
          go_ret
          exact ⟨rfl, b3⟩
        · clear hbig
          by_cases h2 : 100000 < ah.length
          · skip
            go_enter Try.func8, Try.ntmps8
            go_wp2_with fail
            refine (head_any w).mono ?_
            rintro e w1 ⟨rfl, hb1⟩
            go_wp2_with fail
            refine (K1.out _ (hs.below hb1)).mono ?_
            rintro e w2 ⟨v2, rfl, own2, hb2⟩
            obtain ⟨A2, c2, rfl, hc2, _⟩ := own_shape own2
            have b2 := below_step hb1 hb2
            go_wp2_with fail
            refine (K2.out _ (g.below b2)).mono ?_
            rintro e w3 ⟨v3, rfl, own3, hb3⟩
            obtain ⟨A3, c3, rfl, hc3, _⟩ := own_shape own3
            have b3 := below_step b2 hb3
            go_wp2_with fail
            go_ret
            exact ⟨rfl, b3⟩
          · skip
            go_enter Try.func8, Try.ntmps8
            go_wp2_with fail
            refine (head_any w).mono ?_
            rintro e w1 ⟨rfl, hb1⟩
            go_wp2_with fail
            refine (K1.out _ (hs.below hb1)).mono ?_
            rintro e w2 ⟨v2, rfl, own2, hb2⟩
            obtain ⟨A2, c2, rfl, hc2, _⟩ := own_shape own2
            have b2 := below_step hb1 hb2
            go_wp2_with fail
            refine (K2.out _ (g.below b2)).mono ?_
            rintro e w3 ⟨v3, rfl, own3, hb3⟩
            obtain ⟨A3, c3, rfl, hc3, _⟩ := own_shape own3
            have b3 := below_step b2 hb3
            go_wp2_with fail
            go_ret
            exact ⟨rfl, b3⟩
        · clear hbig
          by_cases h2 : 100000 < ah.length
          · skip
            go_enter Try.func8, Try.ntmps8
            go_wp2_with fail
            refine (head_any w).mono ?_
            rintro e w1 ⟨rfl, hb1⟩
            go_wp2_with fail
            refine (K1.out _ (hs.below hb1)).mono ?_
            rintro e w2 ⟨v2, rfl, own2, hb2⟩
            obtain ⟨A2, c2, rfl, hc2, _⟩ := own_shape own2
            have b2 := below_step hb1 hb2
            go_wp2_with fail
            refine (K2.out _ (g.below b2)).mono ?_
            rintro e w3 ⟨v3, rfl, own3, hb3⟩
            obtain ⟨A3, c3, rfl, hc3, _⟩ := own_shape own3
            have b3 := below_step b2 hb3
            go_wp2_with fail
            go_ret
            exact ⟨rfl, b3⟩
          · by_cases h3 : 100000 < be'.length
            · skip
              go_enter Try.func8, Try.ntmps8
              go_wp2_with fail
              refine (head_any w).mono ?_
              rintro e w1 ⟨rfl, hb1⟩
              go_wp2_with fail
              refine (K1.out _ (hs.below hb1)).mono ?_
              rintro e w2 ⟨v2, rfl, own2, hb2⟩
              obtain ⟨A2, c2, rfl, hc2, _⟩ := own_shape own2
              have b2 := below_step hb1 hb2
              go_wp2_with fail
              refine (K2.out _ (g.below b2)).mono ?_
              rintro e w3 ⟨v3, rfl, own3, hb3⟩
              obtain ⟨A3, c3, rfl, hc3, _⟩ := own_shape own3
              have b3 := below_step b2 hb3
              go_wp2_with fail
              go_ret
              exact ⟨rfl, b3⟩
            · skip
              go_enter Try.func8, Try.ntmps8
              go_wp2_with fail
              refine (head_any w).mono ?_
              rintro e w1 ⟨rfl, hb1⟩
              go_wp2_with fail
              refine (K1.out _ (hs.below hb1)).mono ?_
              rintro e w2 ⟨v2, rfl, own2, hb2⟩
              obtain ⟨A2, c2, rfl, hc2, _⟩ := own_shape own2
              have b2 := below_step hb1 hb2
              go_wp2_with fail
              refine (K2.out _ (g.below b2)).mono ?_
              rintro e w3 ⟨v3, rfl, own3, hb3⟩
              obtain ⟨A3, c3, rfl, hc3, _⟩ := own_shape own3
              have b3 := below_step b2 hb3
              go_wp2_with fail
              go_ret
              exact ⟨rfl, b3⟩
    · rw [show putBytesR s = (tx s, 0) by rw [putBytesR, if_pos hx]] at k1
      rw [show putRowR ls = ([], 2) by rw [putRowR, if_neg hy]] at k2
      dsimp only at k1 k2
      have K1 := hid k1
      have K2 := hid k2
      clear k1 k2
      generalize tx s = T at K1
      go_enter Try.func8, Try.ntmps8
      go_wp2_with fail
      refine (head_any w).mono ?_
      rintro e w1 ⟨rfl, hb1⟩
      go_wp2_with fail
      refine (K1.out _ (hs.below hb1)).mono ?_
      rintro e w2 ⟨v2, rfl, own2, hb2⟩
      obtain ⟨A2, c2, rfl, hc2, _⟩ := own_shape own2
      have b2 := below_step hb1 hb2
      go_wp2_with fail
      refine (K2.out _ (g.below b2)).mono ?_
      rintro e w3 ⟨v3, rfl, own3, hb3⟩
      obtain ⟨A3, c3, rfl, hc3, _⟩ := own_shape own3
      have b3 := below_step b2 hb3
      go_wp2_with fail
      go_ret
      exact ⟨rfl, b3⟩
  · rw [show putBytesR s = ([], 2) by rw [putBytesR, if_neg hx]] at k1
    dsimp only at k1
    have K1 := hid k1
    generalize putRowR ls = pr at k2
    obtain ⟨U, e2⟩ := pr
    dsimp only at k2
    have K2 := hid k2
    clear k1 k2
    go_enter Try.func8, Try.ntmps8
    go_wp2_with fail
    refine (head_any w).mono ?_
    rintro e w1 ⟨rfl, hb1⟩
    go_wp2_with fail
    refine (K1.out _ (hs.below hb1)).mono ?_
    rintro e w2 ⟨v2, rfl, own2, hb2⟩
    obtain ⟨A2, c2, rfl, hc2, _⟩ := own_shape own2
    have b2 := below_step hb1 hb2
    go_wp2_with fail
    refine (K2.out _ (g.below b2)).mono ?_
    rintro e w3 ⟨v3, rfl, own3, hb3⟩
    obtain ⟨A3, c3, rfl, hc3, _⟩ := own_shape own3
    have b3 := below_step b2 hb3
    go_wp2_with fail
    go_ret
    exact ⟨rfl, b3⟩
end Go.Proofs.Ytahehikpbhneeaa
