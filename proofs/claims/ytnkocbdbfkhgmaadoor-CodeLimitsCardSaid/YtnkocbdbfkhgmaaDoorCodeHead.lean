import Derived.Test.YtnkocbdbfkhgmaaDoorCodeM
/-! code: the live question, and what is too much -/
namespace Go.Proofs.YtnkocbdbfkhgmaaDoor
open Go.RowKit Go.Cov
theorem get_n {A : Option Addr} {c : Nat} {l : List UInt8} {w : World} (n : Nat) (hn : l.length = n) (h : Rd w A (l.map byt)) (hc : n ≤ c) (hl : n ≤ 140737488351236) :
    Calls Tryd.prog 14 #[.slice A n c] w fun e w' => ∃ m : Mo, e = .returned (.tuple #[.agg #[.slice m.cA m.cs.length m.cc, .slice m.tA m.ts.length m.tc], .int .i64 (readMo l).2]) ∧ m.data = (readMo l).1 ∧ MoRd w' m ∧ Below w.heap.size w w' := by
  subst hn; exact get_any h hc hl
def zMo : Mo := ⟨none, 0, [], none, 0, []⟩
theorem zMo_rd (w : World) : MoRd w zMo := ⟨Els.nil _ _ _, fun x hx => (by cases hx), Els.nil _ _ _, by decide, by decide⟩
theorem mo_nil {m : Mo} (h : m.data = zeroMo) : m.cs = [] ∧ m.ts = [] := by
  unfold Mo.data zeroMo at h
  injection h with h1 h2
  exact ⟨List.map_eq_nil_iff.1 h1, List.map_eq_nil_iff.1 h2⟩
theorem str_plus : str (signD 1) = ⟨#[43]⟩ := by decide +kernel
theorem num_not : numD [33] = 12 := by decide +kernel
set_option maxRecDepth 100000 in
set_option maxHeartbeats 3200000 in
theorem head_any (w : World) (ht : STab w) : Calls Tryd.prog 10 #[] w fun e w' => e = .returned (.bool true) ∧ Below w.heap.size w w' := by
  have KP := put_any (zMo_rd w)
  rw [show bytesMo zMo.data = (putMo zeroMo, 0) from bytesMo_ok zeroMo_right] at KP
  have hback := mod_back zeroMo_right zeroMo_int
  have hmore := mod_more zeroMo_right zeroMo_int 0
  have hx2 := zeroMo_len
  generalize putMo zeroMo = x0 at KP hback hmore hx2
  rw [hx2] at KP
  unfold zMo at KP
  dsimp only [List.length_nil] at KP
  replace KP := hid KP
  replace hx2 := hid hx2
  replace ht := hid ht
  replace hback := hid hback
  replace hmore := hid hmore
  go_enter Tryd.func10, Tryd.ntmps10
  go_wp2_with fail
  refine KP.out.mono ?_
  rintro e w1 ⟨v1, rfl, own1, b1⟩
  clear KP
  obtain ⟨A1, c1, rfl, hc1, hm1, _⟩ := own_shape own1
  have K := get_n (c := c1) 12 hx2.out (own_rd own1) hc1 (by omega)
  rw [hback.out] at K
  replace K := hid K
  go_wp2_with fail
  refine K.out.mono ?_
  rintro e w2 ⟨m, rfl, hm, hr, b2⟩
  obtain ⟨hm1, hm2⟩ := mo_nil hm
  obtain ⟨mA, mc, ms, tA, tc, ts⟩ := m
  dsimp only at hm1 hm2
  subst hm1 hm2
  clear K hm hr
  have own2 := own_below own1 b2
  have b12 := below_step b1 b2
  have bA := below_alloc w2 (.cells #[.slice mA 0 mc, .slice tA 0 tc] 25)
  have RA := Row.new w2 [.slice mA 0 mc, .slice tA 0 tc] 25
  go_upto_region 3 with fail
  change Row (w2.alloc (.cells #[.slice mA 0 mc, .slice tA 0 tc] 25)) _ _ at RA
  obtain ⟨kA, hkA⟩ : ∃ k, k = w2.heap.size := ⟨_, rfl⟩
  generalize w2.alloc (.cells #[.slice mA 0 mc, .slice tA 0 tc] 25) = w3 at bA RA ⊢
  rw [← hkA] at RA ⊢
  have own3 := own_below own2 bA
  have hne : (Value.slice A1 12 c1).ownBlock ≠ some kA := fun he => by have := (own_lt own2 he).2; omega
  have b13 := below_step b12 bA
  replace hkA := hid hkA
  clear own1 own2 bA b2 b1 b12
  have bB := below_alloc w3 (.cells #[.int .u8 0] 5)
  have rB := rd_box w3 #[.int .u8 0] 5
  have own4 := own_below own3 bB
  have R4 := RA.below bB
  have b14 := below_step b13 bB
  have z4 := Nat.le_trans b13.size bB.size
  replace R4 := hid R4
  replace RA := hid RA
  clear bB
  go_wp2_with (at_builtin; refine wpList_app rfl (.tmp 18) (.tmp 19) 26 rfl w.heap.size 5 Tryd.underlying26 infoB rfl (by decide) (.slice A1 12 c1) 12 (x0.map byt) rfl own4 (some ⟨w3.heap.size, 0, none⟩) 1 1 [.int .u8 0] rfl rfl rB (by intro u hu; simp at hu; subst hu; rfl) (by omega) (by omega) z4 ?_; intro v5 w5 own5 hg5 hat5)
  have R5 := R4.out.grown hg5 (fun e => hne e)
  have own5' : w5.ownsRow w.heap.size 5 1 v5 13 ((x0 ++ [0]).map byt) := by rw [List.map_append]; exact own5
  have b5 := b14.trans ((Tv.app hg5 hat5).below own4 z4)
  obtain ⟨A5, c5, rfl, hc5, hm5, _⟩ := own_shape own5'
  have K := get_n (c := c5) 13 (by rw [List.length_append, hx2.out]; rfl) (own_rd own5') hc5 (by omega)
  rw [hmore.out] at K
  replace K := hid K
  clear own5 own5' own3 own4 hg5 hat5 R4 RA rB b14 b13
  go_wp2_with fail
  refine K.out.mono ?_
  rintro e w6 ⟨m, rfl, hm, hr, b6⟩
  clear K hm hr
  have R6 := R5.below b6
  have b06 := below_step b5 b6
  have bD := below_alloc w6 (.cells #[.slice m.cA m.cs.length m.cc, .slice m.tA m.ts.length m.tc] 25)
  have R7 := R6.below bD
  have b07 := below_step b06 bD
  have ht7 := ht.out.below b07
  have KS := sign_any ht7 1
  have KN := number_any ht7 [33]
  rw [str_plus] at KS
  rw [num_not] at KN
  replace KS := hid KS
  replace KN := hid KN
  replace ht7 := hid ht7
  clear R5 R6 b5 b6 b06 bD ht hback hmore
  go_upto_region 4 with fail
  generalize w6.alloc (.cells #[.slice m.cA m.cs.length m.cc, .slice m.tA m.ts.length m.tc] 25) = w7 at b07 R7 KS KN ht7 ⊢
  have C0 := (R7.2 0 _ rfl).1
  replace R7 := hid R7
  go_wp2_with fail
  refine KS.out.mono ?_
  rintro e w8 ⟨rfl, rfl⟩
  go_wp2_with fail
  refine KN.out.mono ?_
  rintro e w8 ⟨rfl, rfl⟩
  go_wp2_with fail
  go_ret
  exact ⟨rfl, b07⟩
end Go.Proofs.YtnkocbdbfkhgmaaDoor
