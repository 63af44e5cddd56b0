import Derived.Test.YtlekoeddcjjjdaaJourX
/-! the ref's journal: Put -/
namespace Go.Proofs.Ytlekoeddcjjjdaa
open Go.RowKit Go.Cov Go.Lib
variable {Bk : Nat → Prop}
set_option maxRecDepth 100000 in
set_option maxHeartbeats 1600000 in
theorem rjput_any {w : World} {base db : Nat} {hist : List PL} {L : PL} {B V : Option Addr} {d f : Nat} {m v : List UInt8} (h : RJ Bk w base db (hist ++ [L])) (hB : ∀ k, w.heap.size ≤ k → Bk k) (hk : Okay L) (hn : hist.length ≤ 100000) (g : Rd w B (m.map byt)) (gv : Rd w V (v.map byt)) :
    Calls Try.prog 13 #[.pointer (some ⟨db, 0, none⟩), .slice B m.length d, .slice V v.length f] w fun e w' => e = .returned (.int .i64 (putR L m v).2) ∧ RJ Bk w' base db (if (putR L m v).2 = 0 then hist ++ [L] ++ [(putR L m v).1] else hist ++ [L]) ∧ Below base w w' ∧ Moves w w' db := by
  have KP := hid (rjpairs_any h hn)
  have HR := hid h
  obtain ⟨dv, ss, ⟨c0, f0⟩, h5, h6, h7⟩ := h
  have hl : ss.length = (hist ++ [L]).length := by have := h6.1; simpa using this
  have hbw : base ≤ w.heap.size := by have := h5.1; have := h5.2.1; omega
  have hdb := h5.2.1
  have hvk : ∀ k, dv.ownBlock = some k → k < w.heap.size := fun k e => (own_lt h6 e).2
  have H5 := hid h5
  have H6 := hid h6
  have H7 := hid h7
  have HV := hid hvk
  have HL := hid hl
  have HK := hid hk
  have HBk := hid hB
  have hlen2 : (hist ++ [L]).length ≤ 100001 := by simp; omega
  obtain ⟨n, hnn⟩ : ∃ n, n = (hist ++ [L]).length := ⟨_, rfl⟩
  have hn1 : n ≤ 100001 := by omega
  replace hnn := hid hnn
  clear h5 h6 h7 hvk hl hk hB hlen2
  obtain ⟨⟨M, pe⟩, hpe⟩ : ∃ p, putR L m v = p := ⟨_, rfl⟩
  rw [hpe]
  dsimp only
  replace hpe := hid hpe
  obtain ⟨RL, hRL⟩ : ∃ R, (if pe = 0 then hist ++ [L] ++ [M] else hist ++ [L]) = R := ⟨_, rfl⟩
  rw [hRL]
  replace hRL := hid hRL
  go_enter Try.func13, Try.ntmps13
  go_wp2_with fail
  refine KP.out.mono ?_
  rintro e w2 ⟨dv0, A, c, xs, rfl, hdv, hg, hb⟩
  obtain rfl : dv = dv0 := Option.some.inj (c0.symm.trans hdv)
  have hxl : xs.length ≤ 1000000 := by have := hg.1.len; have := HK.out.len; omega
  have KD := hid (rput_k (c := c) (d := d) (f := f) (hg.1.below hb) hxl (by have := HK.out.2.2; omega) (g.below hb) (gv.below hb))
  have HG := hid hg
  clear hg hdv KP
  rw [hpe.out] at KD
  dsimp only at KD
  go_wp2_with fail
  refine KD.out.mono ?_
  rintro e w3 ⟨C, q, ys, rfl, hs, hnp, hb3⟩
  clear KD
  have b3 := below_step hb hb3
  by_cases he : pe = 0
  case neg =>
    have hR3 := hid (HR.out.below b3)
    go_wp2_with fail
    go_ret
    exact ⟨rfl, by rw [← hRL.out, if_neg he]; exact hR3.out, b3.mono hbw, fun dv1 h1 => ⟨dv1, cell_on b3 h1, .inl rfl, fun k hk _ _ => b3.block k hk⟩⟩
  subst he
  have hgood := newp_good (HG.out.below hb) (fun k hk => HBk.out k (Nat.le_trans hb.size hk)) (Nat.lt_of_lt_of_le hdb hb.size) (fun k e => Nat.lt_of_lt_of_le (HV.out k e) hb.size) hb3 hs hnp
  have ba := below_alloc w3 (.cells #[.slice C ys.length q] 22)
  have m0 := box_cell w3 #[.slice C ys.length q] 22 0 _ rfl
  have b4 := below_step b3 ba
  have c4 := cell_on b4 c0
  have f4 := froz_on b4 hdb f0
  have c3 := cell_on b3 c0
  have f3 := froz_on b3 hdb f0
  have own4 := own_below H6.out b4
  rw [← hnn.out] at own4
  have hgood4 := hid (hgood.below ba)
  have Hs := hid hs
  have Hnp := hid hnp
  clear hs hnp hgood
  obtain ⟨U, qv, hdvv, _⟩ := own_shape own4
  subst hdvv
  have hbw4 : base ≤ (w3.alloc (.cells #[.slice C ys.length q] 22)).heap.size := Nat.le_trans hbw b4.size
  go_wp2_with (at_builtin; refine wpList_app rfl (.tmp 23) (.tmp 25) 55 rfl base 22 Try.underlying55 infoPP rfl (by decide) (.slice U n qv) n (ss.map SlP.val) rfl own4 (some ⟨w3.heap.size, 0, none⟩) 1 1 [.slice C ys.length q] rfl rfl (rd1 m0) (by intro u hu; rw [List.mem_singleton.1 hu]; rfl) (by omega) (by omega) hbw4 ?_; intro v7 w7 hin7 hg7 hat7; have c7 := (World.cell?_of_block (a := ⟨db, 0, none⟩) (hg7.block db (Nat.lt_of_lt_of_le hdb b4.size) (fun e => H5.out.2.2.1 e.symm))).trans c4; have f7 := (World.frozen?_of_block (a := ⟨db, 0, none⟩) (hg7.block db (Nat.lt_of_lt_of_le hdb b4.size) (fun e => H5.out.2.2.1 e.symm))).trans f4; obtain ⟨C7, q7, hv7, _⟩ := own_shape hin7; subst hv7)
  obtain rfl := hnn.out
  have R := rj_app (Bk := Bk) (Ls := hist ++ [L]) (M := M) (ss := ss) (fun k hk => HBk.out k (Nat.le_trans b4.size hk)) c4 f4 ⟨H5.out.1, Nat.lt_of_lt_of_le hdb b4.size, H5.out.2.2.1, H5.out.2.2.2.1, H5.out.2.2.2.2⟩ (fun i L hi => (H7.out i L hi).imp fun s hs => ⟨hs.1, hs.2.below b4⟩) HL.out hgood4.out hin7 hg7 hat7
  go_ret
  exact ⟨rfl, by rw [← hRL.out]; (first | rw [if_pos trivial] | rw [if_pos rfl]); exact R.1, ((b4.mono hbw).grown hg7 hbw4 (fun k hk => (own_lt own4 hk).1)).setCell (p := ⟨db, 0, none⟩) H5.out.1 _, moves_pre b4 hdb R.2⟩
end Go.Proofs.Ytlekoeddcjjjdaa
