import Derived.Test.YtlekoeddcjjjdaaJourW
/-! the ref's journal: Del -/
namespace Go.Proofs.Ytlekoeddcjjjdaa
open Go.RowKit Go.Cov Go.Lib
variable {Bk : Nat → Prop}
theorem infoPP : (Try.prog.info? 22).map (fun i => (i.zero, i.size, i.bytes)) = some (some (.slice none 0 0), 1, 24) := by kernel_rfl
theorem moves_pre {w w2 w' : World} {db : Nat} (hb : Below w.heap.size w w2) (_hd : db < w.heap.size) (hm : Moves w2 w' db) : Moves w w' db := fun dv h0 => by
  obtain ⟨dv', h1, h2, h3⟩ := hm dv (cell_on hb h0)
  exact ⟨dv', h1, h2.imp id (fun g k hk => Nat.le_trans hb.size (g k hk)), fun k hk hne hv => (h3 k (Nat.lt_of_lt_of_le hk hb.size) hne hv).trans (hb.block k hk)⟩
set_option maxRecDepth 100000 in
set_option maxHeartbeats 1600000 in
theorem rjdel_any {w : World} {base db : Nat} {hist : List PL} {L : PL} {B : Option Addr} {d : Nat} {m : List UInt8} (h : RJ Bk w base db (hist ++ [L])) (hB : ∀ k, w.heap.size ≤ k → Bk k) (hk : Okay L) (hn : hist.length ≤ 100000) (g : Rd w B (m.map byt)) :
    Calls Try.prog 15 #[.pointer (some ⟨db, 0, none⟩), .slice B m.length d] w fun e w' => (∃ v, e = .returned v) ∧ RJ Bk w' base db (hist ++ [L] ++ [delP L m]) ∧ Below base w w' ∧ Moves w w' db := by
  have KP := hid (rjpairs_any h hn)
  obtain ⟨dv, ss, ⟨c0, f0⟩, h5, h6, h7⟩ := h
  have hl : ss.length = (hist ++ [L]).length := by have := h6.1; simpa using this
  have hbw : base ≤ w.heap.size := by have := h5.1; have := h5.2.1; omega
  have hdb := h5.2.1
  have hvk : ∀ k, dv.ownBlock = some k → k < w.heap.size := fun k e => (own_lt h6 e).2
  have H5 := hid h5
  have H6 := hid h6
  have H7 := hid h7
  have HV := hid hvk
  have HL := hid hl
  have HK := hid hk
  have HBk := hid hB
  have hlen2 : (hist ++ [L]).length ≤ 100001 := by simp; omega
  obtain ⟨n, hnn⟩ : ∃ n, n = (hist ++ [L]).length := ⟨_, rfl⟩
  have hn1 : n ≤ 100001 := by omega
  replace hnn := hid hnn
  clear h5 h6 h7 hvk hl hk hB hlen2
  go_enter Try.func15, Try.ntmps15
  go_wp2_with fail
  refine KP.out.mono ?_
  rintro e w2 ⟨dv0, A, c, xs, rfl, hdv, hg, hb⟩
  obtain rfl : dv = dv0 := Option.some.inj (c0.symm.trans hdv)
  have hxl : xs.length ≤ 1000000 := by have := hg.1.len; have := HK.out.len; omega
  have KD := hid (rdel_k (c := c) (d := d) (hg.1.below hb) hxl (g.below hb))
  have HG := hid hg
  clear hg hdv KP
  go_wp2_with fail
  refine KD.out.mono ?_
  rintro e w3 ⟨C, q, ys, rfl, hs, hnp, hb3⟩
  clear KD
  have b3 := below_step hb hb3
  have hgood := newp_good (HG.out.below hb) (fun k hk => HBk.out k (Nat.le_trans hb.size hk)) (Nat.lt_of_lt_of_le hdb hb.size) (fun k e => Nat.lt_of_lt_of_le (HV.out k e) hb.size) hb3 hs hnp
  have ba := below_alloc w3 (.cells #[.slice C ys.length q] 22)
  have m0 := box_cell w3 #[.slice C ys.length q] 22 0 _ rfl
  have b4 := below_step b3 ba
  have c4 := cell_on b4 c0
  have f4 := froz_on b4 hdb f0
  have c3 := cell_on b3 c0
  have f3 := froz_on b3 hdb f0
  have own4 := own_below H6.out b4
  rw [← hnn.out] at own4
  have hgood4 := hid (hgood.below ba)
  have Hs := hid hs
  have Hnp := hid hnp
  clear hs hnp hgood
  obtain ⟨U, qv, hdvv, _⟩ := own_shape own4
  subst hdvv
  have hbw4 : base ≤ (w3.alloc (.cells #[.slice C ys.length q] 22)).heap.size := Nat.le_trans hbw b4.size
  go_wp2_with (at_builtin; refine wpList_app rfl (.tmp 13) (.tmp 15) 55 rfl base 22 Try.underlying55 infoPP rfl (by decide) (.slice U n qv) n (ss.map SlP.val) rfl own4 (some ⟨w3.heap.size, 0, none⟩) 1 1 [.slice C ys.length q] rfl rfl (rd1 m0) (by intro u hu; rw [List.mem_singleton.1 hu]; rfl) (by omega) (by omega) hbw4 ?_; intro v7 w7 hin7 hg7 hat7; have c7 := (World.cell?_of_block (a := ⟨db, 0, none⟩) (hg7.block db (Nat.lt_of_lt_of_le hdb b4.size) (fun e => H5.out.2.2.1 e.symm))).trans c4; have f7 := (World.frozen?_of_block (a := ⟨db, 0, none⟩) (hg7.block db (Nat.lt_of_lt_of_le hdb b4.size) (fun e => H5.out.2.2.1 e.symm))).trans f4; obtain ⟨C7, q7, hv7, _⟩ := own_shape hin7; subst hv7)
  refine bodyPost_end (results_none rfl _ _ _) rfl ?_
  obtain rfl := hnn.out
  have R := rj_app (Bk := Bk) (Ls := hist ++ [L]) (M := delP L m) (ss := ss) (fun k hk => HBk.out k (Nat.le_trans b4.size hk)) c4 f4 ⟨H5.out.1, Nat.lt_of_lt_of_le hdb b4.size, H5.out.2.2.1, H5.out.2.2.2.1, H5.out.2.2.2.2⟩ (fun i L hi => (H7.out i L hi).imp fun s hs => ⟨hs.1, hs.2.below b4⟩) HL.out hgood4.out hin7 hg7 hat7
  exact ⟨⟨_, rfl⟩, R.1, ((b4.mono hbw).grown hg7 hbw4 (fun k hk => (own_lt own4 hk).1)).setCell (p := ⟨db, 0, none⟩) H5.out.1 _, moves_pre b4 hdb R.2⟩
end Go.Proofs.Ytlekoeddcjjjdaa
