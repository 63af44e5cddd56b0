/-
  The walk of the law StoreTells.
-/
import Derived.Test.YtkmeoobbjdbhjaaStoreU
import Derived.Test.YtkmeoobbjdbhjaaStoreS
namespace Go.Proofs.Ytkmeoobbjdbhjaa
open Go.RowKit Go.Cov Go.Lib
theorem add_block (a : Addr) (j : Nat) : (a.add j).block = a.block := by
  unfold Addr.add; split <;> rfl
theorem own_writes {w : World} {base : Nat} {e : TypeId} {D : Option Addr} {n k : Nat} {r : List UInt8} (h : w.ownsRow base e 1 (.slice D n k) n (r.map byt)) : n = 0 ∨ ∃ ad, D = some ad ∧ base ≤ ad.block ∧ ad.block < w.heap.size ∧ (∀ j, j < n → ∃ b : UInt8, w.cell? (ad.add j) = some (byt b)) ∧ (∀ j, w.frozen? (ad.add j) = false) ∧ ∀ i j, i ≠ j → ad.add i ≠ ad.add j := by
  have hrd := own_rd h
  have hlen : r.length = n := by have := h.1; simpa using this
  rcases h.2 with ⟨_, hn⟩ | ⟨g, cap, cur, hv, h1, h2, _, _, _, _⟩
  · exact .inl hn
  · injection hv with e1 e2 e3
    subst e1
    refine .inr ⟨_, rfl, h1, (Array.getElem?_eq_some_iff.1 h2).1, fun j hj => ?_, fun j => ?_, fun i j hij he => ?_⟩
    · obtain ⟨ad, ha, hc⟩ := hrd j (byt (r[j]'(by omega))) (by rw [List.getElem?_map, List.getElem?_eq_getElem (by omega)]; rfl)
      cases ha
      exact ⟨_, hc⟩
    · unfold Addr.add
      split
      · exact frozen_of_row w g 0 cur e h2
      · exact frozen_of_row w g (0 + j) cur e h2
    · unfold Addr.add at he
      by_cases h0 : i = 0 <;> by_cases h0' : j = 0
      · omega
      · rw [if_pos h0, if_neg h0'] at he; injection he with _ he _; simp at he; omega
      · rw [if_neg h0, if_pos h0'] at he; injection he with _ he _; simp at he; omega
      · rw [if_neg h0, if_neg h0'] at he; injection he with _ he _; simp at he; omega
theorem rd_setp {w : World} {A : Option Addr} {xs : List Value} {p : Addr} {v : Value} (h : Rd w A xs) (hne : ∀ ad, A = some ad → ad.block ≠ p.block) : Rd (w.setCell p v) A xs := fun j u hj => by
  obtain ⟨ad, rfl, hc⟩ := h j u hj
  refine ⟨ad, rfl, ?_⟩
  rw [World.cell?_setCell_other _ _ _ _ (fun e => hne ad rfl (by rw [← block_add ad j, ← e]))]
  exact hc
theorem sumP_mem {L : PL} : ∀ x ∈ L, x.2.length ≤ sumP L := by
  induction L with
  | nil => intro x hx; cases hx
  | cons a L ih =>
    intro x hx
    rw [sumP]
    rcases List.mem_cons.1 hx with rfl | hx
    · omega
    · have := ih x hx; omega
theorem getP_len (L : PL) (m : List UInt8) : ((getP L m).getD []).length ≤ sumP L := by
  unfold getP
  cases hf : L.find? (fun a => decide (a.1 = m)) with
  | none => simp
  | some a => exact sumP_mem a (List.mem_of_find?_eq_some hf)
theorem putR_len (L : PL) (m v : List UInt8) : (putR L m v).1.length ≤ 2048 := by
  unfold putR
  by_cases h1 : 64 < m.length ∨ 256 < v.length
  · rw [if_pos h1]; simp
  · rw [if_neg h1]
    by_cases h2 : 2048 < sizeP (insP L m v)
    · rw [if_pos h2]; simp
    · rw [if_neg h2]; unfold sizeP at h2; dsimp only; omega
theorem readP_len (b : List UInt8) : (readP b).1.length ≤ 2048 := by
  rcases read_split b with ⟨e, h, _⟩ | ⟨N, h, hr, _⟩
  · rw [h]; simp
  · rw [h]; have := (okay_iff.1 hr).len; dsimp only; omega
theorem delP_len (L : PL) (m : List UInt8) : (delP L m).length ≤ L.length := by
  unfold delP
  cases L.findIdx? (fun a => decide (a.1 = m)) with
  | none => exact Nat.le_refl _
  | some i => simp; omega
theorem same_true {A B : Option Addr} {c d : Nat} {xs ys : List Pr} {L : PL} {w : World} (h : St w A c xs L) (g : St w B d ys L) (hz : L.length ≤ 100000) :
    Calls Try.prog 11 #[.slice A xs.length c, .slice B ys.length d] w fun e w' => e = .returned (.bool true) ∧ Below w.heap.size w w' :=
  (same_st h g (by have := h.len; omega)).mono (fun e w' hh => ⟨hh.1.trans (congrArg (fun b => Ending.returned (.bool b)) (decide_eq_true rfl)), hh.2⟩)
theorem put_st2 {A B V : Option Addr} {c d f : Nat} {xs : List Pr} {L : PL} {m v : List UInt8} {w : World} (h : St w A c xs L) (hs : sizeP L ≤ 140737488000) (g : Rd w B (m.map byt)) (hm : m.length ≤ 140737488351236) (gv : Rd w V (v.map byt)) (hv : v.length ≤ 140737488351236) :
    Calls Try.prog 10 #[.slice A xs.length c, .slice B m.length d, .slice V v.length f] w fun e w' => ∃ C q ys, e = .returned (.tuple #[.slice C (ys : List Pr).length q, .int .i64 (putR L m v).2]) ∧ St w' C q ys (putR L m v).1 ∧ Below w.heap.size w w' := by
  obtain ⟨h1, h2, rfl⟩ := h
  refine (put_any h1 h2 hs g hm gv hv).mono ?_
  rintro e w' ⟨vv, ys, rfl, h3, h4, _, h5⟩
  obtain ⟨C, q, rfl, h6⟩ := own_st h4
  rw [h3] at h6
  exact ⟨C, q, ys, rfl, h6, h5⟩
theorem del_st2 {A B : Option Addr} {c d : Nat} {xs : List Pr} {L : PL} {m : List UInt8} {w : World} (h : St w A c xs L) (hz : xs.length ≤ 100000) (g : Rd w B (m.map byt)) :
    Calls Try.prog 13 #[.slice A xs.length c, .slice B m.length d] w fun e w' => ∃ C q ys, e = .returned (.slice C (ys : List Pr).length q) ∧ St w' C q ys (delP L m) ∧ Below w.heap.size w w' := by
  obtain ⟨h1, h2, rfl⟩ := h
  refine (del_any h1 h2 (by omega) g).mono ?_
  rintro e w' ⟨vv, ys, rfl, h3, h4, _, h5⟩
  obtain ⟨C, q, rfl, h6⟩ := own_st h4
  rw [h3] at h6
  exact ⟨C, q, ys, rfl, h6, h5⟩
set_option maxRecDepth 100000 in
set_option maxHeartbeats 12800000 in
theorem tells_law {A B V D : Option Addr} {c d f g : Nat} {xs : List Pr} {L : PL} {m v b : List UInt8} {w : World} (h : St w A c xs L) (hz : xs.length ≤ 2932031007403) (hB : Rd w B (m.map byt)) (hm : m.length ≤ 140737488351236) (hV : Rd w V (v.map byt)) (hv : v.length ≤ 140737488351236) (hD : Rd w D (b.map byt)) (hg : b.length ≤ g) (hbl : b.length ≤ 140737488351236) :
    Calls Try.prog 7 #[.slice A xs.length c, .slice B m.length d, .slice V v.length f, .slice D b.length g] w fun e w' => e = .returned (.bool true) ∧ Below w.heap.size w w' := by
  have KG := hid (fun W (hW : Below w.heap.size w W) => great_st (h.below hW) hz)
  go_enter Try.func7, Try.ntmps7
  go_wp2_with fail
  refine (head_any w).mono ?_
  rintro e w1 ⟨rfl, hb⟩
  have bw := hb
  go_wp2_with fail
  refine (KG.out _ bw).mono ?_
  rintro e w2 ⟨hgr, hb⟩
  have bw := below_step bw hb
  rcases hgr with rfl | ⟨rfl, hx1, hx2⟩
  · go_wp2_with fail
    go_ret
    exact ⟨rfl, bw⟩
  have hlen := h.len
  have hsz : sizeP L ≤ 180000 := by unfold sizeP; omega
  have hvs : ∀ x ∈ xs, x.v.length ≤ 140737488351236 := fun x hx => by
    have h1 : x.data ∈ L := by rw [← h.2.2]; exact List.mem_map_of_mem hx
    have h2 := sumP_mem _ h1
    have h3 : x.data.2.length = x.v.length := rfl
    omega
  have hL := h.2.2
  have kg := fun W (hW : Below w.heap.size w W) => get_any (c := c) (d := d) (h.below hW).1 (by omega) hvs (hB.below hW)
  have krg := fun W (hW : Below w.heap.size w W) => rgetp_any (c := c) (d := d) (h.below hW).1 (by omega) hvs (hB.below hW)
  rw [hL] at kg krg
  have hol := getP_len L m
  generalize getP L m = o at kg krg hol
  have kp := fun W (hW : Below w.heap.size w W) => put_st2 (d := d) (f := f) (h.below hW) (by omega) (hB.below hW) hm (hV.below hW) hv
  have krp := fun W (hW : Below w.heap.size w W) => rput_any (d := d) (f := f) (h.below hW) (by omega) (by omega) (hB.below hW) (hV.below hW)
  have hpl := putR_len L m v
  obtain ⟨p1, p2, hp⟩ : ∃ p1 p2, putR L m v = (p1, p2) := ⟨_, _, rfl⟩
  rw [hp] at kp krp hpl
  have kb := fun W (hW : Below w.heap.size w W) => bytes_st (h.below hW) hz
  have krb := fun W (hW : Below w.heap.size w W) => rbytes_st (h.below hW) hz
  obtain ⟨q1, q2, hq⟩ : ∃ q1 q2, bytesP L = (q1, q2) := ⟨_, _, rfl⟩
  rw [hq] at kb krb
  have ke := fun W (hW : Below w.heap.size w W) => read_st (hD.below hW) hg hbl
  have kre := fun W (hW : Below w.heap.size w W) => rread_st (hD.below hW) hg hbl
  have hrl := readP_len b
  obtain ⟨r1, r2, hr⟩ : ∃ r1 r2, readP b = (r1, r2) := ⟨_, _, rfl⟩
  rw [hr] at ke kre hrl
  have kd := fun W (hW : Below w.heap.size w W) => del_st2 (d := d) (h.below hW) (by omega) (hB.below hW)
  have krd := fun W (hW : Below w.heap.size w W) => rdel_any (d := d) (h.below hW) (by omega) (hB.below hW)
  have hdl := delP_len L m
  rw [← hlen] at hdl
  generalize delP L m = DL at kd krd hdl
  have ks := fun W (hW : Below w.heap.size w W) => size_st (h.below hW) (by omega)
  have krs := fun W (hW : Below w.heap.size w W) => rsize_any (c := c) (h.below hW).1 (by rw [hL]; omega)
  rw [hL] at krs
  generalize sizeP L = SZ at ks krs
  have kr := fun W (hW : Below w.heap.size w W) => right_st (h.below hW) hz
  have krr := fun W (hW : Below w.heap.size w W) => rright_pairs (c := c) (h.below hW).1 hz
  rw [hL] at krr
  generalize rightP L = RR at kr krr
  dsimp only at hpl hrl
  have Kg := hid kg
  have Krg := hid krg
  have Kp := hid kp
  have Krp := hid krp
  have Kb := hid kb
  have Krb := hid krb
  have Ke := hid ke
  have Kre := hid kre
  have Kd := hid kd
  have Krd := hid krd
  have Ks := hid ks
  have Krs := hid krs
  have Kr := hid kr
  have Krr := hid krr
  clear kg krg kp krp kb krb ke kre kd krd ks krs kr krr hp hq hr hlen hL hvs hsz
  have bw0 := hid bw.size
  go_wp2_with fail
  refine (Kg.out _ bw).mono ?_
  rintro e w3 ⟨D1, k1, s1, rfl, hs1, ow1, hb⟩
  have bw := below_step bw hb
  have ow1 := hid ow1
  have HS1 := hid hs1
  clear hs1
  have lt1 := hid (fun ad (hA : D1 = some ad) => own_lt ow1.out (k := ad.block) (by rw [hA]; rfl))
  have rd1 := hid (own_rd ow1.out)
  obtain ⟨wv, hwv⟩ : ∃ wv, wv = w3 := ⟨_, rfl⟩
  have bv := Below.refl wv.heap.size wv
  rw [hwv] at bv
  clear hwv
  go_wp2_with fail
  refine (Krg.out _ bw).mono ?_
  rintro e w4 ⟨D2, k2, s2, rfl, hs2, rd2, fr2, hb⟩
  have rd1 := hid (rd1.out.below hb)
  have bw := below_step bw hb
  have rd2 := hid rd2
  have HS2 := hid hs2
  clear hs2
  have ow1 := hid (own_below ow1.out hb)
  have ne2 := hid (fun ad1 ad2 (h1 : D1 = some ad1) (h2 : D2 = some ad2) => (show ad2.block ≠ ad1.block from by have a1 := (lt1.out ad1 h1).2; have a2 := fr2 ad2 h2; omega))
  go_wp2_with fail
  refine (Kp.out _ bw).mono ?_
  rintro e w5 ⟨C3, c3, y3, rfl, st3, hb⟩
  have rd1 := hid (rd1.out.below hb)
  have rd2 := hid (rd2.out.below hb)
  have bw := below_step bw hb
  have ow1 := hid (own_below ow1.out hb)
  have st3 := hid st3
  go_wp2_with fail
  refine (Krp.out _ bw).mono ?_
  rintro e w6 ⟨C4, c4, y4, rfl, st4, hb⟩
  have rd1 := hid (rd1.out.below hb)
  have rd2 := hid (rd2.out.below hb)
  have st3 := hid (st3.out.below hb)
  have bw := below_step bw hb
  have ow1 := hid (own_below ow1.out hb)
  have st4 := hid st4
  go_wp2_with fail
  refine (Kb.out _ bw).mono ?_
  rintro e w7 ⟨v5, rfl, ow5, hb⟩
  have rd1 := hid (rd1.out.below hb)
  have rd2 := hid (rd2.out.below hb)
  have st3 := hid (st3.out.below hb)
  have st4 := hid (st4.out.below hb)
  have bw := below_step bw hb
  have ow1 := hid (own_below ow1.out hb)
  obtain ⟨C5, c5, rfl, _⟩ := own_shape ow5
  have rd5 := hid (own_rd ow5)
  clear ow5
  go_wp2_with fail
  refine (Krb.out _ bw).mono ?_
  rintro e w8 ⟨v6, rfl, ow6, hb⟩
  have rd1 := hid (rd1.out.below hb)
  have rd2 := hid (rd2.out.below hb)
  have st3 := hid (st3.out.below hb)
  have st4 := hid (st4.out.below hb)
  have rd5 := hid (rd5.out.below hb)
  have bw := below_step bw hb
  have ow1 := hid (own_below ow1.out hb)
  obtain ⟨C6, c6, rfl, _⟩ := own_shape ow6
  have rd6 := hid (own_rd ow6)
  clear ow6
  go_wp2_with fail
  refine (Ke.out _ bw).mono ?_
  rintro e w9 ⟨C7, c7, y7, rfl, st7, hb⟩
  have rd1 := hid (rd1.out.below hb)
  have rd2 := hid (rd2.out.below hb)
  have st3 := hid (st3.out.below hb)
  have st4 := hid (st4.out.below hb)
  have rd5 := hid (rd5.out.below hb)
  have rd6 := hid (rd6.out.below hb)
  have bw := below_step bw hb
  have ow1 := hid (own_below ow1.out hb)
  have st7 := hid st7
  go_wp2_with fail
  refine (Kre.out _ bw).mono ?_
  rintro e w10 ⟨C8, c8, y8, rfl, st8, hb⟩
  have rd1 := hid (rd1.out.below hb)
  have rd2 := hid (rd2.out.below hb)
  have st3 := hid (st3.out.below hb)
  have st4 := hid (st4.out.below hb)
  have rd5 := hid (rd5.out.below hb)
  have rd6 := hid (rd6.out.below hb)
  have st7 := hid (st7.out.below hb)
  have bw := below_step bw hb
  have ow1 := hid (own_below ow1.out hb)
  have st8 := hid st8
  go_wp2_with fail
  refine (Kd.out _ bw).mono ?_
  rintro e w11 ⟨C9, c9, y9, rfl, st9, hb⟩
  have rd1 := hid (rd1.out.below hb)
  have rd2 := hid (rd2.out.below hb)
  have st3 := hid (st3.out.below hb)
  have st4 := hid (st4.out.below hb)
  have rd5 := hid (rd5.out.below hb)
  have rd6 := hid (rd6.out.below hb)
  have st7 := hid (st7.out.below hb)
  have st8 := hid (st8.out.below hb)
  have bw := below_step bw hb
  have ow1 := hid (own_below ow1.out hb)
  have st9 := hid st9
  have e12 : s1 = s2 := HS1.out.symm.trans HS2.out
  subst e12
  have cva := conv_bs (P := Try.prog) Try.underlying23 Try.underlying5 Try.underlying9 rd1.out k1
  have cvb := conv_bs (P := Try.prog) Try.underlying23 Try.underlying5 Try.underlying9 rd2.out k2
  go_wp2_with fail
  refine (same_true st3.out st4.out (by omega)).mono ?_
  rintro e w12 ⟨rfl, hb⟩
  have rd1 := hid (rd1.out.below hb)
  have rd2 := hid (rd2.out.below hb)
  have st3 := hid (st3.out.below hb)
  have st4 := hid (st4.out.below hb)
  have rd5 := hid (rd5.out.below hb)
  have rd6 := hid (rd6.out.below hb)
  have st7 := hid (st7.out.below hb)
  have st8 := hid (st8.out.below hb)
  have st9 := hid (st9.out.below hb)
  have bw := below_step bw hb
  have ow1 := hid (own_below ow1.out hb)
  clear cva cvb
  go_wp2_with fail
  refine (Krd.out _ bw).mono ?_
  rintro e w13 ⟨C10, c10, y10, rfl, st10, hb⟩
  have rd1 := hid (rd1.out.below hb)
  have rd2 := hid (rd2.out.below hb)
  have st3 := hid (st3.out.below hb)
  have st4 := hid (st4.out.below hb)
  have rd5 := hid (rd5.out.below hb)
  have rd6 := hid (rd6.out.below hb)
  have st7 := hid (st7.out.below hb)
  have st8 := hid (st8.out.below hb)
  have st9 := hid (st9.out.below hb)
  have bw := below_step bw hb
  have ow1 := hid (own_below ow1.out hb)
  have st10 := hid st10
  go_wp2_with fail
  refine (same_true st9.out st10.out (by omega)).mono ?_
  rintro e w14 ⟨rfl, hb⟩
  have rd1 := hid (rd1.out.below hb)
  have rd2 := hid (rd2.out.below hb)
  have st3 := hid (st3.out.below hb)
  have st4 := hid (st4.out.below hb)
  have rd5 := hid (rd5.out.below hb)
  have rd6 := hid (rd6.out.below hb)
  have st7 := hid (st7.out.below hb)
  have st8 := hid (st8.out.below hb)
  have st9 := hid (st9.out.below hb)
  have st10 := hid (st10.out.below hb)
  have bw := below_step bw hb
  have ow1 := hid (own_below ow1.out hb)
  have cvc := conv_bs (P := Try.prog) Try.underlying23 Try.underlying5 Try.underlying9 rd5.out c5
  have cvd := conv_bs (P := Try.prog) Try.underlying23 Try.underlying5 Try.underlying9 rd6.out c6
  go_wp2_with fail
  refine (same_true st7.out st8.out (by omega)).mono ?_
  rintro e w15 ⟨rfl, hb⟩
  have rd1 := hid (rd1.out.below hb)
  have rd2 := hid (rd2.out.below hb)
  have st3 := hid (st3.out.below hb)
  have st4 := hid (st4.out.below hb)
  have rd5 := hid (rd5.out.below hb)
  have rd6 := hid (rd6.out.below hb)
  have st7 := hid (st7.out.below hb)
  have st8 := hid (st8.out.below hb)
  have st9 := hid (st9.out.below hb)
  have st10 := hid (st10.out.below hb)
  have bw := below_step bw hb
  have ow1 := hid (own_below ow1.out hb)
  clear cvc cvd
  go_wp2_with fail
  refine (Ks.out _ bw).mono ?_
  rintro e w16 ⟨rfl, hb⟩
  have rd1 := hid (rd1.out.below hb)
  have rd2 := hid (rd2.out.below hb)
  have st3 := hid (st3.out.below hb)
  have st4 := hid (st4.out.below hb)
  have rd5 := hid (rd5.out.below hb)
  have rd6 := hid (rd6.out.below hb)
  have st7 := hid (st7.out.below hb)
  have st8 := hid (st8.out.below hb)
  have st9 := hid (st9.out.below hb)
  have st10 := hid (st10.out.below hb)
  have bw := below_step bw hb
  have ow1 := hid (own_below ow1.out hb)
  go_wp2_with fail
  refine (Krs.out _ bw).mono ?_
  rintro e w17 ⟨rfl, hb⟩
  have rd1 := hid (rd1.out.below hb)
  have rd2 := hid (rd2.out.below hb)
  have st3 := hid (st3.out.below hb)
  have st4 := hid (st4.out.below hb)
  have rd5 := hid (rd5.out.below hb)
  have rd6 := hid (rd6.out.below hb)
  have st7 := hid (st7.out.below hb)
  have st8 := hid (st8.out.below hb)
  have st9 := hid (st9.out.below hb)
  have st10 := hid (st10.out.below hb)
  have bw := below_step bw hb
  have ow1 := hid (own_below ow1.out hb)
  go_wp2_with fail
  refine (Kr.out _ bw).mono ?_
  rintro e w18 ⟨rfl, hb⟩
  have rd1 := hid (rd1.out.below hb)
  have rd2 := hid (rd2.out.below hb)
  have st3 := hid (st3.out.below hb)
  have st4 := hid (st4.out.below hb)
  have rd5 := hid (rd5.out.below hb)
  have rd6 := hid (rd6.out.below hb)
  have st7 := hid (st7.out.below hb)
  have st8 := hid (st8.out.below hb)
  have st9 := hid (st9.out.below hb)
  have st10 := hid (st10.out.below hb)
  have bw := below_step bw hb
  have ow1 := hid (own_below ow1.out hb)
  go_wp2_with fail
  refine (Krr.out _ bw).mono ?_
  rintro e w19 ⟨rfl, hb⟩
  have rd1 := hid (rd1.out.below hb)
  have rd2 := hid (rd2.out.below hb)
  have st3 := hid (st3.out.below hb)
  have st4 := hid (st4.out.below hb)
  have rd5 := hid (rd5.out.below hb)
  have rd6 := hid (rd6.out.below hb)
  have st7 := hid (st7.out.below hb)
  have st8 := hid (st8.out.below hb)
  have st9 := hid (st9.out.below hb)
  have st10 := hid (st10.out.below hb)
  have bw := below_step bw hb
  have ow1 := hid (own_below ow1.out hb)
  have KG2 := hid (fun W (hW : Below w.heap.size w W) => Kg.out W hW)
  have hn1 : s1.length ≤ 100000 := by rw [← HS1.out]; omega
  rcases own_writes ow1.out with hn0 | ⟨ad, hAD, hbad, hlad, hcl, hfz, hinj⟩
  · have hs0 : s1 = [] := List.length_eq_zero_iff.1 hn0
    subst hs0
    go_wp2_with fail
    go_loopw [29] (fun iv W => iv = .int .i64 0 ∧ W = w19) (fun _ _ => 0)
    case atStart => exact ⟨rfl, rfl⟩
    case round =>
      obtain ⟨rfl, rfl⟩ := hrel
      go_wp2_with fail
      refine (Kg.out _ bw).mono ?_
      rintro e wa ⟨Da, ka, sa, rfl, hsa, owa, hb⟩
      have esa : sa = [] := hsa.symm.trans HS1.out
      subst esa
      have cva : (convert 23 9 (.slice Da 0 ka)).run Try.prog wa = .ok (.string (str [])) wa := conv_bs (P := Try.prog) (l := []) Try.underlying23 Try.underlying5 Try.underlying9 (own_rd owa) ka
      have cvb : (convert 23 9 (.slice D2 0 k2)).run Try.prog wa = .ok (.string (str [])) wa := conv_bs (P := Try.prog) (l := []) Try.underlying23 Try.underlying5 Try.underlying9 (rd2.out.below hb) k2
      go_wp2_with fail
      go_ret
      exact ⟨rfl, below_step bw hb⟩
  · subst hAD
    have ne2 := hid (fun ad2 (h2 : D2 = some ad2) => ne2.out ad ad2 rfl h2)
    have wbl : w.heap.size ≤ ad.block := Nat.le_trans bw0.out hbad
    have INJ := hid hinj
    go_wp2_with fail
    go_loopw [29] (fun iv W => ∃ z : Nat, z ≤ s1.length ∧ iv = .int .i64 z ∧ (Hid (∀ j, z ≤ j → j < s1.length → ∃ u : UInt8, W.cell? (ad.add j) = some (byt u)) ∧ Hid (∀ j, W.frozen? (ad.add j) = false)) ∧ Hid (Rd W D2 (s1.map byt)) ∧ Below w.heap.size w W) (fun iv _ => s1.length - (RowKit.intOf iv).toNat)
    case atStart => exact ⟨0, Nat.zero_le _, rfl, ⟨hid (fun j _ hj => hcl j hj), hid hfz⟩, rd2, bw⟩
    case round =>
      obtain ⟨z, hz1, rfl, ⟨HC, HF⟩, HR, hbr⟩ := hrel
      by_cases hlt : z < s1.length
      · have i1 : (z : Int) < s1.length := by omega
        obtain ⟨u, hu⟩ := HC.out z (Nat.le_refl _) hlt
        unfold byt at hu
        have hfr := HF.out z
        go_wp2_with fail
        go_roundw
        case rel => exact ⟨z + 1, by omega, by go_num, ⟨hid (fun j hj1 hj2 => by
          obtain ⟨u', hu'⟩ := HC.out j (by omega) hj2
          exact ⟨u', by rw [World.cell?_setCell_other _ _ _ _ (INJ.out z j (by omega))]; exact hu'⟩), hid (fun j => by rw [World.frozen?_setCell]; exact HF.out j)⟩, hid (rd_setp HR.out (fun a2 h2 => by rw [add_block]; exact ne2.out a2 h2)), hbr.setCell (p := ad.add z) (by rw [add_block]; exact wbl) _⟩
        case measure => simp [RowKit.intOf]; omega
      · obtain rfl : z = s1.length := by omega
        go_wp2_with fail
        refine (Kg.out _ hbr).mono ?_
        rintro e wa ⟨Da, ka, sa, rfl, hsa, owa, hb⟩
        have esa : sa = s1 := hsa.symm.trans HS1.out
        subst esa
        have cva := conv_bs (P := Try.prog) Try.underlying23 Try.underlying5 Try.underlying9 (own_rd owa) ka
        have cvb := conv_bs (P := Try.prog) Try.underlying23 Try.underlying5 Try.underlying9 (HR.out.below hb) k2
        go_wp2_with fail
        go_ret
        exact ⟨rfl, below_step hbr hb⟩
end Go.Proofs.Ytkmeoobbjdbhjaa
