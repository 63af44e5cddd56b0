import Derived.Test.YtnkocbdbfkhgmaaDoorCodeKept
import Derived.Test.YtnkocbdbfkhgmaaDoorPlain1
/-! CodeCuts: a right module's bytes, cut anywhere, are none. -/
namespace Go.Proofs.YtnkocbdbfkhgmaaDoor
open Go.RowKit Go.Cov
theorem cut_at (cut : Int) (n : Nat) (h0 : 0 ≤ cut) (h1 : cut < 4294967296) (hn : 0 < n) (hn2 : n < 4294967296) : ∃ k : Nat, k < n ∧ IntKind.u32.wrap (n : Int) = (n : Int) ∧ cut.tmod (n : Int) = (k : Int) := by
  obtain ⟨c, rfl⟩ : ∃ c : Nat, cut = c := ⟨cut.toNat, by omega⟩
  refine ⟨c % n, Nat.mod_lt _ hn, ?_, ?_⟩
  · simp [IntKind.wrap, IntKind.signed, IntKind.bits]; omega
  · rfl
set_option maxRecDepth 100000 in
set_option maxHeartbeats 12800000 in
theorem cuts_law {w : World} {m : Mo} (h : MoRd w m) (io : intMo m.data) (ht : STab w) (cut : Int) (hcut : 0 ≤ cut ∧ cut < 4294967296) :
    Calls Tryd.prog 7 #[.agg #[.slice m.cA m.cs.length m.cc, .slice m.tA m.ts.length m.tc], .int .u32 cut] w fun e w' => e = .returned (.bool true) ∧ Below w.heap.size w w' := by
  replace ht := hid ht
  obtain ⟨cA, cc, cs, tA, tc, ts⟩ := m
  dsimp only
  have b0 := below_alloc w (.cells #[.slice cA cs.length cc, .slice tA ts.length tc] 25)
  have R0 := Row.new w [.slice cA cs.length cc, .slice tA ts.length tc] 25
  have h1 := h.below b0
  replace h1 := hid h1
  clear h
  go_enter Tryd.func7, Tryd.ntmps7
  go_upto_region 1 with fail
  change Row (w.alloc (.cells #[.slice cA cs.length cc, .slice tA ts.length tc] 25)) _ _ at R0
  obtain ⟨kM, hkM⟩ : ∃ k, k = w.heap.size := ⟨_, rfl⟩
  generalize w.alloc (.cells #[.slice cA cs.length cc, .slice tA ts.length tc] 25) = w1 at b0 R0 h1 ⊢
  rw [← hkM] at R0 ⊢
  replace hkM := hid hkM
  have ht1 := hid (ht.out.below b0)
  clear ht
  go_wp2_with fail
  refine (head_any w1 ht1.out).mono ?_
  rintro e w2 ⟨rfl, hb2⟩
  have h2 := h1.out.below hb2
  have R2 := R0.below hb2
  replace b0 := below_step b0 hb2
  clear hb2 h1 R0 ht1
  have K := great_any h2
  dsimp only at K
  replace K := hid K
  have C0 := (R2.2 0 _ rfl).1
  have C1 := (R2.2 1 _ rfl).1
  replace R2 := hid R2
  go_wp2_with fail
  refine K.out.mono ?_
  rintro e w3 ⟨q, rfl, hb3⟩
  have h3 := h2.below hb3
  have R3 := R2.out.below hb3
  replace b0 := below_step b0 hb3
  clear K C0 C1 hb3 h2 R2
  cases q
  case true =>
    go_wp2_with fail
    go_ret
    exact ⟨rfl, b0⟩
  have K := put_any h3
  dsimp only at K
  obtain ⟨is, his⟩ : ∃ r, rightMo (⟨cA, cc, cs, tA, tc, ts⟩ : Mo).data = r := ⟨_, rfl⟩
  have C0 := (R3.2 0 _ rfl).1
  have C1 := (R3.2 1 _ rfl).1
  cases is
  case false =>
    rw [bytesMo_no his] at K
    replace K := hid K
    replace R3 := hid R3
    replace his := hid his
    go_wp2_with fail
    refine K.out.mono ?_
    rintro e w4 ⟨v4, rfl, own4, hb4⟩
    obtain ⟨A4, c4, rfl, _⟩ := own_shape own4
    replace b0 := below_step b0 hb4
    clear K C0 C1
    go_wp2_with fail
    go_ret
    exact ⟨rfl, b0⟩
  rw [bytesMo_ok his] at K
  have hle := putMo_le his
  have hz : 12 ≤ (putMo (⟨cA, cc, cs, tA, tc, ts⟩ : Mo).data).length := by rw [putMo_len]; omega
  obtain ⟨x, hx⟩ : ∃ x, putMo (⟨cA, cc, cs, tA, tc, ts⟩ : Mo).data = x := ⟨_, rfl⟩
  obtain ⟨L, hL⟩ : ∃ L, x.length = L := ⟨_, rfl⟩
  rw [hx] at K hle hz
  rw [hL] at K hle hz
  obtain ⟨k, hk, ek1, ek2⟩ := cut_at cut L hcut.1 hcut.2 (by omega) (by omega)
  have hcutM := mod_cut his io (c := k) (by rw [hx, hL]; exact hk)
  rw [hx] at hcutM
  have ht := hid (show (x.take k).length = k by rw [List.length_take]; omega)
  have j1 : ((L : Int) == 0) = false := by simp; omega
  replace hx := hid hx
  replace hL := hid hL
  replace hcutM := hid hcutM
  replace his := hid his
  replace K := hid K
  replace R3 := hid R3
  clear io
  go_wp2_with fail
  refine K.out.mono ?_
  rintro e w4 ⟨v4, rfl, own4, hb4⟩
  obtain ⟨A4, c4, rfl, hc4, hm4, _⟩ := own_shape own4
  replace b0 := below_step b0 hb4
  clear K C0 C1 hb4
  have rd7 : Rd w4 A4 ((x.take k).map byt) := by
    rw [List.map_take]
    exact (own_rd own4).take k
  have KG := get_n k ht.out rd7 (by omega : k ≤ c4) (by omega)
  rw [hcutM.out] at KG
  replace KG := hid KG
  have w1 : wrap64 (k : Int) = (k : Int) := by simp only [wrap64]; omega
  have i1 : (k : Int) ≤ (c4 : Int) := by omega
  have i2 : k ≤ c4 := by omega
  clear rd7 own4 ht hcutM
  go_wp2_with fail
  refine KG.out.mono ?_
  rintro e w7 ⟨m7, rfl, hm, hr7, hb7⟩
  obtain ⟨hm1, hm2⟩ := mo_nil hm
  obtain ⟨mA, mc, ms, mtA, mtc, mts⟩ := m7
  dsimp only at hm1 hm2
  subst hm1 hm2
  clear KG hm hr7
  have b8 := below_step b0 (below_step hb7 (below_alloc w7 (.cells #[.slice mA 0 mc, .slice mtA 0 mtc] 25)))
  replace b8 := hid b8
  go_wp2_with fail
  go_ret
  exact ⟨rfl, b8.out⟩
end Go.Proofs.YtnkocbdbfkhgmaaDoor
