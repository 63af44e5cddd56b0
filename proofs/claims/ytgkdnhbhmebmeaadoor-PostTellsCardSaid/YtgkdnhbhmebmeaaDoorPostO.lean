import Derived.Test.YtgkdnhbhmebmeaaDoorPostN
import Derived.Test.YtgkdnhbhmebmeaaDoorPostM
import Derived.Test.YtgkdnhbhmebmeaaDoorPostK
import Derived.Test.YtgkdnhbhmebmeaaDoorPlain1
import Derived.Test.YtgkdnhbhmebmeaaDoorSeaE
/-! the ref's post: the message of bytes -/
namespace Go.Proofs.YtgkdnhbhmebmeaaDoor
open Go.RowKit Go.Cov
theorem row_next (vs : List Int) (k : Nat) (hk : vs.length = k) (h : k < 10) (n : Int) : ((vs ++ List.replicate (10 - k) 0).map (Value.int .i64)).set k (.int .i64 n) = ((vs ++ [n]) ++ List.replicate (10 - (k + 1)) 0).map (Value.int .i64) := by
  obtain ⟨m, hm⟩ : ∃ m, 10 - k = m + 1 := ⟨10 - k - 1, by omega⟩
  rw [hm, show 10 - (k + 1) = m by omega, List.replicate_succ, List.map_append, List.set_append_right _ _ (by rw [List.length_map]; omega), List.length_map, hk, Nat.sub_self]
  simp
theorem nxs10 (l : List UInt8) (s : Int × Int) {n : N10} {s1 : Int × Int} (h : get10 l s = (n, s1)) : nxs numR 0 10 l s = ([n.1, n.2.1, n.2.2.1, n.2.2.2.1, n.2.2.2.2.1, n.2.2.2.2.2.1, n.2.2.2.2.2.2.1, n.2.2.2.2.2.2.2.1, n.2.2.2.2.2.2.2.2.1, n.2.2.2.2.2.2.2.2.2], s1) := by
  have e1 : n = (get10 l s).1 := by rw [h]
  have e2 : s1 = (get10 l s).2 := by rw [h]
  rw [e1, e2]
  rfl
set_option maxRecDepth 100000 in
set_option maxHeartbeats 25600000 in
theorem rgetmsg_any {A : Option Addr} {c : Nat} {l : List UInt8} {w : World} (h : Rd w A (l.map byt)) (hc : l.length ≤ c) (hl : l.length ≤ 140737488351232) :
    Calls Tryd.prog 14 #[.slice A l.length c] w fun e w' => ∃ o : Ma, e = .returned (.tuple #[o.val, .int .i64 (readS l).2]) ∧ o.data = (readS l).1 ∧ MaRd w' o ∧ Below w.heap.size w w' := by
  have b1 := below_alloc w (.cells #[.int .i64 0, .int .i64 0, .int .i64 0, .int .i64 0, .int .i64 0, .int .i64 0, .int .i64 0, .int .i64 0, .int .i64 0, .int .i64 0, .slice none 0 0, .bool false, .int .i64 0, .slice none 0 0, .slice none 0 0] 28)
  have R1 := Row.new w [.int .i64 0, .int .i64 0, .int .i64 0, .int .i64 0, .int .i64 0, .int .i64 0, .int .i64 0, .int .i64 0, .int .i64 0, .int .i64 0, .slice none 0 0, .bool false, .int .i64 0, .slice none 0 0, .slice none 0 0] 28
  have KO := ropen_any (h.below b1) hc hl
  replace KO := hid KO
  go_enter Tryd.func14, Tryd.ntmps14
  go_upto_region 1 with fail
  change Row (w.alloc (.cells #[.int .i64 0, .int .i64 0, .int .i64 0, .int .i64 0, .int .i64 0, .int .i64 0, .int .i64 0, .int .i64 0, .int .i64 0, .int .i64 0, .slice none 0 0, .bool false, .int .i64 0, .slice none 0 0, .slice none 0 0] 28)) _ _ at R1
  generalize hw1 : w.alloc (.cells #[.int .i64 0, .int .i64 0, .int .i64 0, .int .i64 0, .int .i64 0, .int .i64 0, .int .i64 0, .int .i64 0, .int .i64 0, .int .i64 0, .slice none 0 0, .bool false, .int .i64 0, .slice none 0 0, .slice none 0 0] 28) = w1 at b1 R1 KO ⊢
  have n1 := hid (show w1.heap.size = w.heap.size + 1 by rw [← hw1]; exact size_alloc1)
  clear hw1
  go_wp2_with fail
  refine KO.out.mono ?_
  rintro e w2 ⟨v2, rfl, own2, hb2⟩
  clear KO
  obtain ⟨A2, c2, rfl, hc2, hm2, hn2⟩ := own_shape own2
  have R2 := R1.below hb2
  have b2 := below_step b1 hb2
  have z2 : w1.heap.size ≤ w2.heap.size := hb2.size
  by_cases hz : openE l = 0
  case neg =>
    have hrs := hid (show readS l = (zeroM, openE l) by unfold readS; rw [if_neg hz])
    have je : (openE l != 0) = true := by simp [hz]
    clear hz own2 hc2 hm2 hn2
    generalize openE l = er at je hrs ⊢
    have R7 := hid (R2.setCells (us := [.int .i64 0, .int .i64 0, .int .i64 0, .int .i64 0, .int .i64 0, .int .i64 0, .int .i64 0, .int .i64 0, .int .i64 0, .int .i64 0, .slice none 0 0, .bool false, .int .i64 0, .slice none 0 0, .slice none 0 0]) rfl)
    have b7 := hid (below_setCells b2 (Nat.le_refl _) [.int .i64 0, .int .i64 0, .int .i64 0, .int .i64 0, .int .i64 0, .int .i64 0, .int .i64 0, .int .i64 0, .int .i64 0, .int .i64 0, .slice none 0 0, .bool false, .int .i64 0, .slice none 0 0, .slice none 0 0])
    go_wp2_with (refine wpList_store_lit w.heap.size [.int .i64 0, .int .i64 0, .int .i64 0, .int .i64 0, .int .i64 0, .int .i64 0, .int .i64 0, .int .i64 0, .int .i64 0, .int .i64 0, .slice none 0 0, .bool false, .int .i64 0, .slice none 0 0, .slice none 0 0] [.int .i64 0, .int .i64 0, .int .i64 0, .int .i64 0, .int .i64 0, .int .i64 0, .int .i64 0, .int .i64 0, .int .i64 0, .int .i64 0, .slice none 0 0, .bool false, .int .i64 0, .slice none 0 0, .slice none 0 0] ?_ ?_ ?_ rfl (by kernel_rfl) rfl ?_; (· rfl); (· rfl); (· exact R2))
    refine bodyPost_ret (results_cell2 (k := 2) (k2 := 3) (t := 28) Tryd.results14 rfl rfl R7.out Tryd.underlying28 rfl (by kernel_rfl)) rfl ?_
    rw [hrs.out]
    exact ⟨zeroMa, rfl, rfl, zeroMa_rd _, b7.out⟩
  have hrs := hid (show readS l = readM (openL l) by unfold readS; rw [if_pos hz])
  have hlo : (openL l).length ≤ 140737488351236 := by unfold openL; split; simp; split; (rw [List.length_drop]; omega); simp
  have rd2 := own_rd own2
  have hA2 : openL l ≠ [] → ∀ ad, A2 = some ad → w1.heap.size ≤ ad.block ∧ ad.block < w2.heap.size := fun _ ad ha => own_lt own2 (k := ad.block) (by rw [ha]; rfl)
  rw [hz]
  clear hz own2
  generalize openL l = lo at hrs hlo rd2 hc2 hm2 hn2 hA2 ⊢
  have hwz : w.heap.size < w2.heap.size := by have := n1.out; omega
  -- the reader
  have b3 := below_alloc w2 (.cells #[.slice A2 lo.length c2, .int .i64 0, .int .i64 0] 66)
  have RR := Rr.new rd2 (fun hn ad ha => (hA2 hn ad ha).2) hc2 hlo 66
  replace RR := hid RR
  replace hA2 := hid hA2
  go_upto_region 5 with fail
  replace RR := RR.out
  generalize hw3 : w2.alloc (.cells #[.slice A2 lo.length c2, .int .i64 0, .int .i64 0] 66) = w3 at b3 RR ⊢
  have n3 := hid (show w3.heap.size = w2.heap.size + 1 by rw [← hw3]; exact size_alloc1)
  clear hw3
  -- the array
  have b4 := below_alloc w3 (.cells #[.int .i64 0, .int .i64 0, .int .i64 0, .int .i64 0, .int .i64 0, .int .i64 0, .int .i64 0, .int .i64 0, .int .i64 0, .int .i64 0] 67)
  have RA := Row.new w3 [.int .i64 0, .int .i64 0, .int .i64 0, .int .i64 0, .int .i64 0, .int .i64 0, .int .i64 0, .int .i64 0, .int .i64 0, .int .i64 0] 67
  replace RA := hid RA
  replace RR := hid RR
  go_upto_region 6 with fail
  replace RA := RA.out
  replace RR := RR.out.below b4
  change Row (w3.alloc (.cells #[.int .i64 0, .int .i64 0, .int .i64 0, .int .i64 0, .int .i64 0, .int .i64 0, .int .i64 0, .int .i64 0, .int .i64 0, .int .i64 0] 67)) _ _ at RA
  generalize hw4 : w3.alloc (.cells #[.int .i64 0, .int .i64 0, .int .i64 0, .int .i64 0, .int .i64 0, .int .i64 0, .int .i64 0, .int .i64 0, .int .i64 0, .int .i64 0] 67) = w4 at b4 RA RR ⊢
  clear hw4
  have nA : w3.heap.size = w2.heap.size + 1 := n3.out
  have R4 := (R2.below b3).below b4
  have b04 := below_step (below_step b2 b3) b4
  clear R2 b2 rd2 hc2 hm2 hn2 b3 b4
  replace nA := hid nA
  have z4 : w3.heap.size < w4.heap.size := RA.1
  have z3 : w2.heap.size < w3.heap.size := by have := nA.out; omega
  replace R4 := hid R4
  go_wp2_with fail
  go_loopw [8, 9] (fun i _ W => ∃ (k : Nat) (sk : Int × Int) (vs : List Int), i = .int .i64 k ∧ (k ≤ 10 ∧ vs.length = k) ∧ nxs numR 0 10 lo (0, 0) = (vs ++ (nxs numR 0 (10 - k) lo sk).1, (nxs numR 0 (10 - k) lo sk).2) ∧ Row W w3.heap.size ((vs ++ List.replicate (10 - k) 0).map (Value.int .i64)) ∧ Rr W w2.heap.size A2 c2 lo sk ∧ Gro w2.heap.size w3.heap.size w4 W) (fun i _ _ => 10 - (RowKit.intOf i).toNat)
  case atStart => exact ⟨0, (0, 0), [], rfl, ⟨by omega, rfl⟩, by simp, RA, RR, Gro.refl _ _ _⟩
  case round =>
    clear RA RR
    obtain ⟨k, sk, vs, rfl, ⟨hk, hvl⟩, hnx, hrow, hrr, hG⟩ := hrel
    by_cases hlt : k < 10
    · have i1 : (k : Int) < 10 := by omega
      have i0 : (0 : Int) ≤ (k : Int) := by omega
      obtain ⟨m, hm⟩ : ∃ m, 10 - k = m + 1 := ⟨10 - k - 1, by omega⟩
      have hm2 : 10 - (k + 1) = m := by omega
      have hstep : nxs numR 0 (m + 1) lo sk = ((nx numR 0 lo sk).1 :: (nxs numR 0 m lo (nx numR 0 lo sk).2).1, (nxs numR 0 m lo (nx numR 0 lo sk).2).2) := rfl
      rw [hm, hstep] at hnx
      clear hstep
      have HNX := hid hnx
      replace hm := hid hm
      replace hm2 := hid hm2
      clear hnx
      go_wp2_with fail
      refine (rdnum_any hrr).mono ?_
      rintro e wx ⟨rfl, h3, G3⟩
      have hrow3 := hrow.gro G3 (by omega)
      have hcell : ((vs ++ List.replicate (10 - k) 0).map (Value.int .i64))[k]? = some (.int .i64 0) := by
        rw [hm.out, List.replicate_succ, List.map_append, List.getElem?_append_right (by rw [List.length_map]; omega), List.length_map, hvl, Nat.sub_self]; rfl
      have C := (hrow3.2 k _ hcell).1
      have F := (hrow3.2 k _ hcell).2
      generalize hn1 : (nx numR 0 lo sk).1 = n1' at HNX ⊢
      have hset := hrow3.set k (by simp; omega) (.int .i64 n1')
      rw [row_next vs k hvl hlt n1'] at hset
      have h3' := h3.gro (Gro.set w3.heap.size w3.heap.size k wx (.int .i64 n1')) (by omega) (fun hn ad ha => by have := (hA2.out hn ad ha).2; omega)
      have hG' := (hG.trans G3.lft).trans (Gro.set w2.heap.size w3.heap.size k wx (.int .i64 n1') |> fun _ => (Gro.set w3.heap.size w3.heap.size k wx (.int .i64 n1')).rgt)
      replace hset := hid hset
      replace h3' := hid h3'
      replace hG' := hid hG'
      clear hn1 hcell
      go_wp2_with fail
      go_roundw
      case rel => exact ⟨k + 1, (nx numR 0 lo sk).2, vs ++ [n1'], by go_num, ⟨by omega, by rw [List.length_append, hvl]; rfl⟩, by rw [HNX.out, hm2.out, List.append_assoc]; rfl, hset.out, h3'.out, hG'.out⟩
      case measure => simp [RowKit.intOf]; omega
    · obtain rfl : k = 10 := by omega
      obtain ⟨n, s1, g1⟩ : ∃ n s1, get10 lo ((0 : Int), (0 : Int)) = (n, s1) := ⟨_, _, rfl⟩
      have h10 := nxs10 lo _ g1
      rw [h10] at hnx
      have hnx : ([n.1, n.2.1, n.2.2.1, n.2.2.2.1, n.2.2.2.2.1, n.2.2.2.2.2.1, n.2.2.2.2.2.2.1, n.2.2.2.2.2.2.2.1, n.2.2.2.2.2.2.2.2.1, n.2.2.2.2.2.2.2.2.2], s1) = (vs, sk) := by simpa [nxs] using hnx
      obtain ⟨rfl, rfl⟩ := Prod.mk.inj hnx
      clear hnx h10 hvl hk hlt
      replace hrow : Row wr w3.heap.size [.int .i64 n.1, .int .i64 n.2.1, .int .i64 n.2.2.1, .int .i64 n.2.2.2.1, .int .i64 n.2.2.2.2.1, .int .i64 n.2.2.2.2.2.1, .int .i64 n.2.2.2.2.2.2.1, .int .i64 n.2.2.2.2.2.2.2.1, .int .i64 n.2.2.2.2.2.2.2.2.1, .int .i64 n.2.2.2.2.2.2.2.2.2] := hrow
      obtain ⟨wl, hwl⟩ : ∃ wl, wl = wr := ⟨_, rfl⟩
      rw [← hwl] at hrow hrr hG ⊢
      clear hwl
      have R5 := R4.out.gro2 hG (by omega) (by omega)
      have b05 := b04.trans (hG.below (by omega) (by omega) b04.size)
      have z5 : w3.heap.size < wl.heap.size := hrow.1
      have A0 := (hrow.2 0 _ rfl).1
      have A1 := (hrow.2 1 _ rfl).1
      have A2 := (hrow.2 2 _ rfl).1
      have A3 := (hrow.2 3 _ rfl).1
      have A4 := (hrow.2 4 _ rfl).1
      have A5 := (hrow.2 5 _ rfl).1
      have A6 := (hrow.2 6 _ rfl).1
      have A7 := (hrow.2 7 _ rfl).1
      have A8 := (hrow.2 8 _ rfl).1
      have A9 := (hrow.2 9 _ rfl).1
      -- the message
      have bM := below_alloc wl (.cells #[.int .i64 n.1, .int .i64 n.2.1, .int .i64 n.2.2.1, .int .i64 n.2.2.2.1, .int .i64 n.2.2.2.2.1, .int .i64 n.2.2.2.2.2.1, .int .i64 n.2.2.2.2.2.2.1, .int .i64 n.2.2.2.2.2.2.2.1, .int .i64 n.2.2.2.2.2.2.2.2.1, .int .i64 n.2.2.2.2.2.2.2.2.2, .slice none 0 0, .bool false, .int .i64 0, .slice none 0 0, .slice none 0 0] 28)
      have RM := Row.new wl [.int .i64 n.1, .int .i64 n.2.1, .int .i64 n.2.2.1, .int .i64 n.2.2.2.1, .int .i64 n.2.2.2.2.1, .int .i64 n.2.2.2.2.2.1, .int .i64 n.2.2.2.2.2.2.1, .int .i64 n.2.2.2.2.2.2.2.1, .int .i64 n.2.2.2.2.2.2.2.2.1, .int .i64 n.2.2.2.2.2.2.2.2.2, .slice none 0 0, .bool false, .int .i64 0, .slice none 0 0, .slice none 0 0] 28
      replace RM := hid RM
      replace hrow := hid hrow
      go_upto_region 12 with fail
      clear A0 A1 A2 A3 A4 A5 A6 A7 A8 A9
      replace RM := RM.out
      change Row (wl.alloc (.cells #[.int .i64 n.1, .int .i64 n.2.1, .int .i64 n.2.2.1, .int .i64 n.2.2.2.1, .int .i64 n.2.2.2.2.1, .int .i64 n.2.2.2.2.2.1, .int .i64 n.2.2.2.2.2.2.1, .int .i64 n.2.2.2.2.2.2.2.1, .int .i64 n.2.2.2.2.2.2.2.2.1, .int .i64 n.2.2.2.2.2.2.2.2.2, .slice none 0 0, .bool false, .int .i64 0, .slice none 0 0, .slice none 0 0] 28)) _ _ at RM
      generalize wl.alloc (.cells #[.int .i64 n.1, .int .i64 n.2.1, .int .i64 n.2.2.1, .int .i64 n.2.2.2.1, .int .i64 n.2.2.2.2.1, .int .i64 n.2.2.2.2.2.1, .int .i64 n.2.2.2.2.2.2.1, .int .i64 n.2.2.2.2.2.2.2.1, .int .i64 n.2.2.2.2.2.2.2.2.1, .int .i64 n.2.2.2.2.2.2.2.2.2, .slice none 0 0, .bool false, .int .i64 0, .slice none 0 0, .slice none 0 0] 28) = w5 at bM RM ⊢
      have hR : Rk w w5 w.heap.size wl.heap.size w2.heap.size [.int .i64 0, .int .i64 0, .int .i64 0, .int .i64 0, .int .i64 0, .int .i64 0, .int .i64 0, .int .i64 0, .int .i64 0, .int .i64 0, .slice none 0 0, .bool false, .int .i64 0, .slice none 0 0, .slice none 0 0] [.int .i64 n.1, .int .i64 n.2.1, .int .i64 n.2.2.1, .int .i64 n.2.2.2.1, .int .i64 n.2.2.2.2.1, .int .i64 n.2.2.2.2.2.1, .int .i64 n.2.2.2.2.2.2.1, .int .i64 n.2.2.2.2.2.2.2.1, .int .i64 n.2.2.2.2.2.2.2.2.1, .int .i64 n.2.2.2.2.2.2.2.2.2, .slice none 0 0, .bool false, .int .i64 0, .slice none 0 0, .slice none 0 0] A2 c2 lo s1 (fun _ => True) := ⟨R5.below bM, RM, hrr.below bM, trivial, fun _ _ _ _ _ _ _ => trivial, by omega, (fun hn ad ha => by have h1 := hA2.out hn ad ha; have h2 := n1.out; omega), below_step b05 bM⟩
      -- text 5
      go_wp2_with fail
      refine (rdtext_any hR.rr).mono ?_
      rintro e x3 ⟨v5, rfl, o3, h3, G3⟩
      have z3 := hR.r2.1
      replace hR := hR.next h3 G3
      obtain ⟨e5, s5, he5⟩ : ∃ e s, nx bytesR [] lo s1 = (e, s) := ⟨_, _, rfl⟩
      rw [he5] at hR o3
      obtain ⟨A5, c5, rfl, hc5, hm5, _⟩ := own_shape o3
      replace hR := hR.more (own_mono o3 z3) (fun k W1 W2 hk hG _ hx => keep_ownk hk hG hx)
      have C := hR.c2 10 _ rfl
      have F := hR.f2 10 _ rfl
      replace hR := hR.set 10 (by simp) (.slice A5 e5.length c5)
      replace hR := hid hR
      go_upto_region 13 with fail
      clear C F h3 G3 o3 z3
      replace hR := hR.out
      generalize World.setCell _ _ _ = x4 at hR ⊢
      simp only [List.set_cons_zero, List.set_cons_succ] at hR
      -- has
      obtain ⟨e6, s6, he6⟩ : ∃ e s, nx boolR false lo s5 = (e, s) := ⟨_, _, rfl⟩
      have C2 := (hR.rr.row.2 2 _ rfl).1
      replace hR := hid hR
      go_upto_if 69 with fail
      go_cut [] (fun wx => Rk w wx w.heap.size wl.heap.size w2.heap.size [.int .i64 0, .int .i64 0, .int .i64 0, .int .i64 0, .int .i64 0, .int .i64 0, .int .i64 0, .int .i64 0, .int .i64 0, .int .i64 0, .slice none 0 0, .bool false, .int .i64 0, .slice none 0 0, .slice none 0 0] [.int .i64 n.1, .int .i64 n.2.1, .int .i64 n.2.2.1, .int .i64 n.2.2.2.1, .int .i64 n.2.2.2.2.1, .int .i64 n.2.2.2.2.2.1, .int .i64 n.2.2.2.2.2.2.1, .int .i64 n.2.2.2.2.2.2.2.1, .int .i64 n.2.2.2.2.2.2.2.2.1, .int .i64 n.2.2.2.2.2.2.2.2.2, .slice A5 e5.length c5, .bool e6, .int .i64 0, .slice none 0 0, .slice none 0 0] A2 c2 lo s6 (fun W => True ∧ W.ownsRow (wl.heap.size + 1) 5 1 (.slice A5 e5.length c5) e5.length (e5.map byt)))
      case first =>
        replace hR := hR.out
        obtain ⟨p5, r5⟩ := s5
        by_cases z5 : r5 = 0
        · subst z5
          rw [nx_ok] at he6
          obtain ⟨p6, r6⟩ := s6
          have bcur := (Below.refl x4.heap.size x4).drew
          have K := rbool_any (hR.rr.rd.below bcur) hR.rr.cap hR.rr.len p5
          rw [he6] at K
          dsimp only at K
          have KB := hid K
          clear K
          have C0 := (hR.rr.row.2 0 _ rfl).1
          have C1 := (hR.rr.row.2 1 _ rfl).1
          have k0 := fun W (hW : Below x4.heap.size x4 W) => cell_on hW C0
          have k1 := fun W (hW : Below x4.heap.size x4 W) => cell_on hW C1
          have hR1 := (hR.on bcur).set 11 (by simp) (.bool e6)
          have hR2 := hR1.next (hR1.rr.set1 p6) (Gro.set w2.heap.size w2.heap.size 1 _ _)
          have hR3 := hid (hR2.next (hR2.rr.set2 r6) (Gro.set w2.heap.size w2.heap.size 2 _ _))
          have D11 := (hR.on bcur).c2 11 _ rfl
          have E11 := (hR.on bcur).f2 11 _ rfl
          have D1 := ((hR.on bcur).rr.row.2 1 _ rfl).1
          have E1 := ((hR.on bcur).rr.row.2 1 _ rfl).2
          have D2 := ((hR.on bcur).rr.row.2 2 _ rfl).1
          have E2 := ((hR.on bcur).rr.row.2 2 _ rfl).2
          have hne : ¬ wl.heap.size = w2.heap.size := by have := hR.ord; omega
          clear hR1 hR2
          replace hR := hid hR
          go_upto_region 14 with fail
          refine wp_region_noPanic ?_
          refine wp_region_held_drew (S := (fun W => Below x4.heap.size x4 W)) (by kernel_rfl) ?_ (fun hHeld => ?_)
          · exact (Below.refl _ _).drew
          refine wpAnyH_take (i := 0) (oi := ?oi1) (v := ?v1) ?hi1 (by kernel_rfl) (by kernel_rfl) (by kernel_rfl) ?hQ1 ?hy1 (by assumption) ?hrest1
          case hi1 => (simp only [List.getElem?_toArray, List.getElem?_cons_zero]; try rfl)
          case hQ1 => exact fun _ _ _ h => h
          case hy1 =>
            refine Or.inl ⟨by rfl, ?_⟩
            (intro wq hSw; (try dsimp only at hSw); go_simp; try with_reducible rfl)
          (try simp only [Act.put, List.setIfInBounds_toArray, List.set_cons_zero, List.set_cons_succ])
          refine wpAnyH_take (i := 1) (oi := ?oi2) (v := ?v2) ?hi2 (by kernel_rfl) (by kernel_rfl) (by kernel_rfl) ?hQ2 ?hy2 (by assumption) ?hrest2
          case hi2 => (simp only [List.getElem?_toArray, List.getElem?_cons_succ, List.getElem?_cons_zero]; try rfl)
          case hQ2 => exact fun _ _ _ h => h
          case hy2 =>
            refine Or.inl ⟨by rfl, ?_⟩
            (intro wq hSw; (try dsimp only at hSw); go_simp; try with_reducible rfl)
          (try simp only [Act.put, List.setIfInBounds_toArray, List.set_cons_zero, List.set_cons_succ])
          refine wpAnyH_take (i := 2) (oi := ?oi3) (v := ?v3) ?hi3 (by kernel_rfl) (by kernel_rfl) (by kernel_rfl) ?hQ3 ?hy3 (by assumption) ?hrest3
          case hi3 => (simp only [List.getElem?_toArray, List.getElem?_cons_succ, List.getElem?_cons_zero]; try rfl)
          case hQ3 => exact fun _ _ _ h => h
          case hy3 =>
            refine Or.inl ⟨by rfl, ?_⟩
            (intro wq hSw; (try dsimp only at hSw); go_simp; try with_reducible rfl)
          (try simp only [Act.put, List.setIfInBounds_toArray, List.set_cons_zero, List.set_cons_succ])
          refine wpAnyH_take (i := 3) (oi := ?oi4) (v := ?v4) ?hi4 (by kernel_rfl) (by kernel_rfl) (by kernel_rfl) ?hQ4 ?hy4 (by assumption) ?hrest4
          case hi4 => (simp only [List.getElem?_toArray, List.getElem?_cons_succ, List.getElem?_cons_zero]; try rfl)
          case hQ4 => exact fun _ _ _ h => h
          case hy4 =>
            refine Or.inl ⟨by rfl, ?_⟩
            (intro wq hSw; (try dsimp only at hSw); go_simp; try with_reducible rfl)
          (try simp only [Act.put, List.setIfInBounds_toArray, List.set_cons_zero, List.set_cons_succ])
          refine wpAnyH_take (i := 4) (oi := ?oi5) (v := ?v5) ?hi5 (by kernel_rfl) (by kernel_rfl) (by kernel_rfl) ?hQ5 ?hy5 (by assumption) ?hrest5
          case hi5 => (simp only [List.getElem?_toArray, List.getElem?_cons_succ, List.getElem?_cons_zero]; try rfl)
          case hQ5 => exact fun _ _ _ h => h
          case hy5 =>
            refine Or.inl ⟨by rfl, ?_⟩
            (intro wq hSw; (try dsimp only at hSw); go_simp; try with_reducible rfl)
          (try simp only [Act.put, List.setIfInBounds_toArray, List.set_cons_zero, List.set_cons_succ])
          refine wpAnyH_take (i := 5) (oi := ?oi6) (v := ?v6) ?hi6 (by kernel_rfl) (by kernel_rfl) (by kernel_rfl) ?hQ6 ?hy6 (by assumption) ?hrest6
          case hi6 => (simp only [List.getElem?_toArray, List.getElem?_cons_succ, List.getElem?_cons_zero]; try rfl)
          case hQ6 => exact fun _ _ _ h => h
          case hy6 =>
            refine Or.inl ⟨by rfl, ?_⟩
            (intro wq hSw; (try dsimp only at hSw); go_simp; try with_reducible rfl)
          (try simp only [Act.put, List.setIfInBounds_toArray, List.set_cons_zero, List.set_cons_succ])
          refine wpAnyH_take (i := 6) (oi := ?oi7) (v := ?v7) ?hi7 (by kernel_rfl) (by kernel_rfl) (by kernel_rfl) ?hQ7 ?hy7 (by assumption) ?hrest7
          case hi7 => (simp only [List.getElem?_toArray, List.getElem?_cons_succ, List.getElem?_cons_zero]; try rfl)
          case hQ7 => exact fun _ _ _ h => h
          case hy7 =>
            refine Or.inl ⟨by rfl, ?_⟩
            (intro wq hSw; (try dsimp only at hSw); go_simp; try with_reducible rfl)
          (try simp only [Act.put, List.setIfInBounds_toArray, List.set_cons_zero, List.set_cons_succ])
          refine wpAnyH_take (i := 7) (oi := ?oi8) (v := ?v8) ?hi8 (by kernel_rfl) (by kernel_rfl) (by kernel_rfl) ?hQ8 ?hy8 (by assumption) ?hrest8
          case hi8 => (simp only [List.getElem?_toArray, List.getElem?_cons_succ, List.getElem?_cons_zero]; try rfl)
          case hQ8 => exact fun _ _ _ h => h
          case hy8 =>
            refine Or.inl ⟨by rfl, ?_⟩
            (intro wq hSw; (try dsimp only at hSw); go_simp; try with_reducible rfl)
          (try simp only [Act.put, List.setIfInBounds_toArray, List.set_cons_zero, List.set_cons_succ])
          refine wpAnyH_ready (rs := [8]) (by kernel_rfl) (by simp) ?_
          refine AllReadyH.cons (o := ?oi9) ?hi9 (fun K hK => ?hstep9) AllReadyH.nil
          case hi9 => (simp only [List.getElem?_toArray, List.getElem?_cons_succ, List.getElem?_cons_zero]; try rfl)
          go_simp
          (refine KB.out.mono ?_; rintro e wx ⟨rfl, rfl⟩)
          refine hK.out _ _ hHeld (fun hHeld => ?_)
          clear hK K
          (try simp only [Act.put, List.setIfInBounds_toArray, List.set_cons_zero, List.set_cons_succ])
          refine wpAnyH_take (i := 9) (oi := ?oi10) (v := ?v10) ?hi10 (by kernel_rfl) (by kernel_rfl) (by kernel_rfl) ?hQ10 ?hy10 (by assumption) ?hrest10
          case hi10 => (simp only [List.getElem?_toArray, List.getElem?_cons_succ, List.getElem?_cons_zero]; try rfl)
          case hQ10 => exact fun _ _ _ h => h
          case hy10 =>
            refine Or.inl ⟨by rfl, ?_⟩
            (intro wq hSw; (try dsimp only at hSw); go_simp; try with_reducible rfl)
          (try simp only [Act.put, List.setIfInBounds_toArray, List.set_cons_zero, List.set_cons_succ])
          refine wpAnyH_take (i := 10) (oi := ?oi11) (v := ?v11) ?hi11 (by kernel_rfl) (by kernel_rfl) (by kernel_rfl) ?hQ11 ?hy11 (by assumption) ?hrest11
          case hi11 => (simp only [List.getElem?_toArray, List.getElem?_cons_succ, List.getElem?_cons_zero]; try rfl)
          case hQ11 => exact fun _ _ _ h => h
          case hy11 =>
            refine Or.inl ⟨by rfl, ?_⟩
            (intro wq hSw; (try dsimp only at hSw); go_simp; try with_reducible rfl)
          (try simp only [Act.put, List.setIfInBounds_toArray, List.set_cons_zero, List.set_cons_succ])
          refine wpAnyH_take (i := 11) (oi := ?oi12) (v := ?v12) ?hi12 (by kernel_rfl) (by kernel_rfl) (by kernel_rfl) ?hQ12 ?hy12 (by assumption) ?hrest12
          case hi12 => (simp only [List.getElem?_toArray, List.getElem?_cons_succ, List.getElem?_cons_zero]; try rfl)
          case hQ12 => exact fun _ _ _ h => h
          case hy12 =>
            refine Or.inl ⟨by rfl, ?_⟩
            (intro wq hSw; (try dsimp only at hSw); go_simp; try with_reducible rfl)
          (try simp only [Act.put, List.setIfInBounds_toArray, List.set_cons_zero, List.set_cons_succ])
          refine wpAnyH_take (i := 12) (oi := ?oi13) (v := ?v13) ?hi13 (by kernel_rfl) (by kernel_rfl) (by kernel_rfl) ?hQ13 ?hy13 (by assumption) ?hrest13
          case hi13 => (simp only [List.getElem?_toArray, List.getElem?_cons_succ, List.getElem?_cons_zero]; try rfl)
          case hQ13 => exact fun _ _ _ h => h
          case hy13 =>
            refine Or.inl ⟨by rfl, ?_⟩
            (intro wq hSw; (try dsimp only at hSw); go_simp; try with_reducible rfl)
          (try simp only [Act.put, List.setIfInBounds_toArray, List.set_cons_zero, List.set_cons_succ])
          refine wpAnyH_take (i := 13) (oi := ?oi14) (v := ?v14) ?hi14 (by kernel_rfl) (by kernel_rfl) (by kernel_rfl) ?hQ14 ?hy14 (by assumption) ?hrest14
          case hi14 => (simp only [List.getElem?_toArray, List.getElem?_cons_succ, List.getElem?_cons_zero]; try rfl)
          case hQ14 => exact fun _ _ _ h => h
          case hy14 =>
            refine Or.inl ⟨by rfl, ?_⟩
            (intro wq hSw; (try dsimp only at hSw); go_simp; try with_reducible rfl)
          (try simp only [Act.put, List.setIfInBounds_toArray, List.set_cons_zero, List.set_cons_succ])
          refine wpAnyH_take (i := 14) (oi := ?oi15) (v := ?v15) ?hi15 (by kernel_rfl) (by kernel_rfl) (by kernel_rfl) ?hQ15 ?hy15 (by assumption) ?hrest15
          case hi15 => (simp only [List.getElem?_toArray, List.getElem?_cons_succ, List.getElem?_cons_zero]; try rfl)
          case hQ15 => exact fun _ _ _ h => h
          case hy15 =>
            refine Or.inl ⟨by rfl, ?_⟩
            (intro wq hSw; (try dsimp only at hSw); go_simp; try with_reducible rfl)
          (try simp only [Act.put, List.setIfInBounds_toArray, List.set_cons_zero, List.set_cons_succ])
          refine wpAnyH_take (i := 15) (oi := ?oi16) (v := ?v16) ?hi16 (by kernel_rfl) (by kernel_rfl) (by kernel_rfl) ?hQ16 ?hy16 (by assumption) ?hrest16
          case hi16 => (simp only [List.getElem?_toArray, List.getElem?_cons_succ, List.getElem?_cons_zero]; try rfl)
          case hQ16 => exact fun _ _ _ h => h
          case hy16 =>
            refine Or.inl ⟨by rfl, ?_⟩
            (intro wq hSw; (try dsimp only at hSw); go_simp; try with_reducible rfl)
          (try simp only [Act.put, List.setIfInBounds_toArray, List.set_cons_zero, List.set_cons_succ])
          refine wpAnyH_done (by kernel_rfl) ?_ _
          refine NoPanic.normal ?_
          (skip)
          clear hHeld k0 k1 C0 C1 bcur
          generalize x4.drew = xd at D11 E11 D1 E1 D2 E2 hR3 ⊢
          go_wp2_with fail
          go_meet
          have h9 := hR3.out
          simp only [List.set_cons_zero, List.set_cons_succ] at h9
          exact h9
        · have e6' : e6 = false ∧ s6 = (p5, r5) := by
            rw [nx, if_neg z5] at he6
            exact ⟨(Prod.mk.inj he6).1.symm, (Prod.mk.inj he6).2.symm⟩
          obtain ⟨rfl, rfl⟩ := e6'
          have y5 : (r5 == 0) = false := by simp [z5]
          replace hR := hid hR
          go_wp2_with fail
          go_meet
          exact hR.out
      case rest =>
      clear hR C2
      have hR := hcut
      clear hcut
      -- number 7
      go_wp2_with fail
      refine (rdnum_any hR.rr).mono ?_
      rintro e x3 ⟨rfl, h3, G3⟩
      replace hR := hR.next h3 G3
      obtain ⟨e7, s7, he7⟩ : ∃ e s, nx numR 0 lo s6 = (e, s) := ⟨_, _, rfl⟩
      rw [he7] at hR ⊢
      have C := hR.c2 12 _ rfl
      have F := hR.f2 12 _ rfl
      replace hR := hR.set 12 (by simp) (.int .i64 e7)
      replace hR := hid hR
      go_upto_region 19 with fail
      clear C F h3 G3
      replace hR := hR.out
      generalize World.setCell _ _ _ = x4 at hR ⊢
      simp only [List.set_cons_zero, List.set_cons_succ] at hR
      -- number 8
      go_wp2_with fail
      refine (rdnum_any hR.rr).mono ?_
      rintro e x3 ⟨rfl, h3, G3⟩
      replace hR := hR.next h3 G3
      obtain ⟨e8, s8, he8⟩ : ∃ e s, nx numR 0 lo s7 = (e, s) := ⟨_, _, rfl⟩
      rw [he8] at hR ⊢
      replace hR := hid hR
      go_upto_region 20 with fail
      clear h3 G3
      replace hR := hR.out
      obtain ⟨mn, hmn⟩ : ∃ mn, mn = e8 := ⟨_, rfl⟩
      rw [← hmn] at he8 ⊢
      clear hmn
      have C2 := (hR.rr.row.2 2 _ rfl).1
      replace hR := hid hR
      go_cut [111] (fun s111 wx => s111 = .bool (decide (s8.2 = 0 ∧ (mn < 0 ∨ 64 < mn))) ∧ Rk w wx w.heap.size wl.heap.size w2.heap.size [.int .i64 0, .int .i64 0, .int .i64 0, .int .i64 0, .int .i64 0, .int .i64 0, .int .i64 0, .int .i64 0, .int .i64 0, .int .i64 0, .slice none 0 0, .bool false, .int .i64 0, .slice none 0 0, .slice none 0 0] [.int .i64 n.1, .int .i64 n.2.1, .int .i64 n.2.2.1, .int .i64 n.2.2.2.1, .int .i64 n.2.2.2.2.1, .int .i64 n.2.2.2.2.2.1, .int .i64 n.2.2.2.2.2.2.1, .int .i64 n.2.2.2.2.2.2.2.1, .int .i64 n.2.2.2.2.2.2.2.2.1, .int .i64 n.2.2.2.2.2.2.2.2.2, .slice A5 e5.length c5, .bool e6, .int .i64 e7, .slice none 0 0, .slice none 0 0] A2 c2 lo s8 (fun W => True ∧ W.ownsRow (wl.heap.size + 1) 5 1 (.slice A5 e5.length c5) e5.length (e5.map byt)))
      case first =>
        obtain ⟨p8, r8⟩ := s8
        by_cases z8 : r8 = 0
        · subst z8
          by_cases n5 : mn < 0
          · have j5 : decide (mn < 0) = true := decide_eq_true n5
            go_wp2_with fail
            go_meet
            exact ⟨congrArg Value.bool (decide_eq_true ⟨trivial, .inl n5⟩).symm, hR.out⟩
          · have j5 : decide (mn < 0) = false := decide_eq_false n5
            go_wp2_with fail
            go_meet
            exact ⟨congrArg Value.bool (decide_eq_decide.2 ⟨fun h => ⟨trivial, .inr h⟩, fun h => h.2.resolve_left (by omega)⟩), hR.out⟩
        · have y8 : (r8 == 0) = false := by simp [z8]
          go_wp2_with fail
          go_meet
          exact ⟨by simp [z8], hR.out⟩
      case rest =>
      clear hR C2
      obtain ⟨rfl, hR⟩ := hcut
      replace hR := hid hR
      go_upto_if 111 with fail
      go_cut [] (fun wx => Rk w wx w.heap.size wl.heap.size w2.heap.size [.int .i64 0, .int .i64 0, .int .i64 0, .int .i64 0, .int .i64 0, .int .i64 0, .int .i64 0, .int .i64 0, .int .i64 0, .int .i64 0, .slice none 0 0, .bool false, .int .i64 0, .slice none 0 0, .slice none 0 0] [.int .i64 n.1, .int .i64 n.2.1, .int .i64 n.2.2.1, .int .i64 n.2.2.2.1, .int .i64 n.2.2.2.2.1, .int .i64 n.2.2.2.2.2.1, .int .i64 n.2.2.2.2.2.2.1, .int .i64 n.2.2.2.2.2.2.2.1, .int .i64 n.2.2.2.2.2.2.2.2.1, .int .i64 n.2.2.2.2.2.2.2.2.2, .slice A5 e5.length c5, .bool e6, .int .i64 e7, .slice none 0 0, .slice none 0 0] A2 c2 lo (chk 64 151 (mn, s8)) (fun W => True ∧ W.ownsRow (wl.heap.size + 1) 5 1 (.slice A5 e5.length c5) e5.length (e5.map byt)))
      case first =>
        replace hR := hR.out
        by_cases hz : s8.2 = 0 ∧ (mn < 0 ∨ 64 < mn)
        · have hd : decide (s8.2 = 0 ∧ (mn < 0 ∨ 64 < mn)) = true := decide_eq_true hz
          have F2 := (hR.rr.row.2 2 _ rfl).2
          have C2 := (hR.rr.row.2 2 _ rfl).1
          have hS := hid (hR.err 151)
          clear hR
          go_wp2_with fail
          go_meet
          unfold chk
          rw [if_pos hz]
          exact hS.out
        · have hd : decide (s8.2 = 0 ∧ (mn < 0 ∨ 64 < mn)) = false := decide_eq_false hz
          replace hR := hid hR
          go_wp2_with fail
          go_meet
          unfold chk
          rw [if_neg hz]
          exact hR.out
      case rest =>
      clear hR
      have hR := hcut
      clear hcut
      have hck : (chk 64 151 (mn, s8)).2 = 0 → mn.toNat ≤ 64 := by
        unfold chk
        split
        · intro hh; exact absurd hh (show ¬ ((151 : Int) = 0) by decide)
        · rename_i hh; intro h0; dsimp only at hh h0; by_cases hx : 64 < mn; exact absurd ⟨h0, .inr hx⟩ hh; omega
      obtain ⟨sc, hsc⟩ : ∃ sc, sc = chk 64 151 (mn, s8) := ⟨_, rfl⟩
      rw [← hsc] at hR hck
      have HSC := hid hsc
      clear hsc
      obtain ⟨wq, hwq⟩ : ∃ wq, wq = wc := ⟨_, rfl⟩
      rw [← hwq] at hR
      have zq := hR.r2.1
      have zrb : w2.heap.size < wl.heap.size := by have := hR.ord; omega
      have hA5 : ∀ k, (Value.slice A5 e5.length c5).ownBlock = some k → k < wq.heap.size := fun k hk => (own_lt hR.x.2 hk).2
      replace hR := hid hR
      go_wp2_with fail
      go_loopw [15, 16, 17, 18] (fun i _ _ _ W => ∃ (k : Nat) (sk : Int × Int) (outs : List En) (v : Value), i = .int .i64 k ∧ (outs.length = k ∧ k ≤ 64 ∧ (sk.2 = 0 → k + (mn.toNat - k) ≤ 64)) ∧ getL getV mn.toNat lo sc = (outs.map En.data ++ (getL getV (mn.toNat - k) lo sk).1, (getL getV (mn.toNat - k) lo sk).2) ∧ OwnEls enEl W wq.heap.size 43 v outs ∧ NewE enEl wq.heap.size outs ∧ wq.heap.size ≤ W.heap.size ∧ Rk w W w.heap.size wl.heap.size w2.heap.size [.int .i64 0, .int .i64 0, .int .i64 0, .int .i64 0, .int .i64 0, .int .i64 0, .int .i64 0, .int .i64 0, .int .i64 0, .int .i64 0, .slice none 0 0, .bool false, .int .i64 0, .slice none 0 0, .slice none 0 0] [.int .i64 n.1, .int .i64 n.2.1, .int .i64 n.2.2.1, .int .i64 n.2.2.2.1, .int .i64 n.2.2.2.2.1, .int .i64 n.2.2.2.2.2.1, .int .i64 n.2.2.2.2.2.2.1, .int .i64 n.2.2.2.2.2.2.2.1, .int .i64 n.2.2.2.2.2.2.2.2.1, .int .i64 n.2.2.2.2.2.2.2.2.2, .slice A5 e5.length c5, .bool e6, .int .i64 e7, v, .slice none 0 0] A2 c2 lo sk (fun W => True ∧ W.ownsRow (wl.heap.size + 1) 5 1 (.slice A5 e5.length c5) e5.length (e5.map byt))) (fun i _ _ _ _ => mn.toNat - (RowKit.intOf i).toNat)
      case atStart => exact ⟨0, sc, [], .slice none 0 0, rfl, ⟨rfl, by omega, by simpa using hck⟩, by simp, OwnEls.nil _ _ _ _, NewE.nil _ _, by rw [← hwq]; exact Nat.le_refl _, by rw [← hwq]; exact hR.out⟩
      case round =>
        clear hwq hR
        obtain ⟨k, sk, outs, v, rfl, ⟨hl0, hl1, hl2⟩, hgl, hE, hN, hzr, hR⟩ := hrel
        have C2 := (hR.rr.row.2 2 _ rfl).1
        replace hR := hid hR
        replace hgl := hid hgl
        replace hE := hid hE
        go_upto_region 23 with fail
        go_cut [124] (fun s124 wx => s124 = .bool (decide ((k : Int) < mn ∧ sk.2 = 0)) ∧ wx = wr)
        case first =>
          by_cases hn : (k : Int) < mn
          · have jn : decide ((k : Int) < mn) = true := decide_eq_true hn
            go_wp2_with fail
            go_meet
            exact ⟨congrArg Value.bool (by by_cases hz : sk.2 = 0 <;> simp [hn, hz]), rfl⟩
          · have jn : decide ((k : Int) < mn) = false := decide_eq_false hn
            go_wp2_with fail
            go_meet
            exact ⟨congrArg Value.bool (decide_eq_false (fun hh => by omega)).symm, rfl⟩
        case rest =>
        obtain ⟨rfl, rfl⟩ := hcut
        clear C2
        replace hR := hR.out
        replace hgl := hgl.out
        replace hE := hE.out
        by_cases hgo : (k : Int) < mn ∧ sk.2 = 0
        · rw [decide_eq_true hgo]
          obtain ⟨hn, hz⟩ := hgo
          obtain ⟨m, hm⟩ : ∃ m : Nat, mn.toNat - k = m + 1 := ⟨mn.toNat - k - 1, by omega⟩
          have hm64 := hl2 hz
          rw [hm] at hm64
          have hm2 : mn.toNat - (k + 1) = m := by omega
          rw [hm, getL_ok getV m lo sk hz] at hgl
          have HGL := hid hgl
          have HM := hid hm2
          have HL0 := hid hl0
          have hkm : k < mn.toNat := by omega
          clear hgl hm hm2 hl0 hl2 hz hn
          have hk64 : k < 64 := by omega
          have hE0 := hid hE
          replace hE := hid hE
          replace hN := hid hN
          -- client
          go_wp2_with fail
          refine (rdnum_any hR.rr).mono ?_
          rintro e x3 ⟨rfl, h3, G3⟩
          replace hR := hR.next h3 G3
          have z31 := G3.size
          replace hE := hid (keep_els hE.out hN.out G3 (by omega))
          obtain ⟨f1, t1, i1⟩ : ∃ e s, nx numR 0 lo sk = (e, s) := ⟨_, _, rfl⟩
          rw [i1] at hR ⊢
          dsimp only at hR ⊢
          clear h3 G3
          -- request
          go_wp2_with fail
          refine (rdnum_any hR.rr).mono ?_
          rintro e x4' ⟨rfl, h3, G3⟩
          replace hR := hR.next h3 G3
          have z32 := G3.size
          replace hE := hid (keep_els hE.out hN.out G3 (by omega))
          obtain ⟨f2, t2, i2⟩ : ∃ e s, nx numR 0 lo t1 = (e, s) := ⟨_, _, rfl⟩
          rw [i2] at hR ⊢
          dsimp only at hR ⊢
          clear h3 G3
          -- text
          go_wp2_with fail
          refine (rdtext_any hR.rr).mono ?_
          rintro e x6 ⟨v6, rfl, own6, h3, G3⟩
          replace hR := hR.next h3 G3
          have z33 := G3.size
          replace hE := hid (keep_els hE.out hN.out G3 (by omega))
          obtain ⟨f3, t3, i3⟩ : ∃ e s, nx bytesR [] lo t2 = (e, s) := ⟨_, _, rfl⟩
          rw [i3] at hR own6
          dsimp only at hR own6
          clear h3 G3
          obtain ⟨A6, c6, rfl, hc6, hm6, _⟩ := own_shape own6
          have zT : wc.heap.size ≤ x4'.heap.size := Nat.le_trans z31 z32
          have C13 := hR.c2 13 _ rfl
          have bB := below_alloc x6 (.cells #[.int .i64 f1, .int .i64 f2, .slice A6 f3.length c6] 43)
          have rB := rd_box x6 #[.int .i64 f1, .int .i64 f2, .slice A6 f3.length c6] 43
          have zB : wq.heap.size ≤ (x6.alloc (.cells #[.int .i64 f1, .int .i64 f2, .slice A6 f3.length c6] 43)).heap.size := Nat.le_trans (Nat.le_trans hzr (Nat.le_trans zT z33)) bB.size
          have hEB := hE.out.below bB
          have RB := hR.on bB
          have hoff : Off enEl (x6.alloc (.cells #[.int .i64 f1, .int .i64 f2, .slice A6 f3.length c6] 43)) v [⟨f1, f2, A6, c6, f3⟩] := en_off (own_below own6 bB) hE0.out.1 zT
          have hNn := hid (hN.out.app (ys := [⟨f1, f2, A6, c6, f3⟩]) (en_new own6 (Nat.le_trans hzr zT)))
          have HGV : Hid (getV lo sk = ((f1, f2, f3), t3)) := by refine hid ?_; unfold getV; simp only [sq, i1, i2, i3]
          clear own6 bB hE hE0
          have hol : outs.length ≤ 64 := by have := HL0.out; omega
          replace rB := hid rB
          replace hoff := hid hoff
          replace RB := hid RB
          replace hEB := hid hEB
          replace i1 := hid i1
          replace i2 := hid i2
          replace i3 := hid i3
          replace hR := hid hR
          go_upto_region 24 with (at_builtin; refine wpList_app rfl (.tmp 135) (.tmp 140) 24 rfl wq.heap.size 43 Tryd.underlying24 infoE rfl (by decide) v outs.length (outs.flatMap enEl.cells) rfl hEB.out.1 (some ⟨x6.heap.size, 0, none⟩) 1 1 [.int .i64 f1, .int .i64 f2, .slice A6 f3.length c6] rfl rfl rB.out (by intro u hu; simp at hu; rcases hu with rfl | rfl | rfl <;> rfl) (by omega) (by omega) zB ?_; intro v7 w7 own7 hg7 hat7; have P7 := RB.out.grown hg7 (fun j hj => by have := (own_lt hEB.out.1 hj).1; omega) ⟨trivial, RB.out.x.2.kept hg7 (by cases hb : (Value.slice A5 e5.length c5).ownBlock with | none => exact .inl rfl | some j => exact .inr (fun e => by have h1 := hA5 j hb; have h2 := (own_lt hEB.out.1 e.symm).1; omega))⟩; have hE7 := OwnEls.app (ys := [⟨f1, f2, A6, c6, f3⟩]) hEB.out.2 hoff.out own7 hg7 hat7; obtain ⟨A7, c7, hv7, _, _, _⟩ := own_shape own7; subst hv7; have D13 := P7.c2 13 _ rfl; have F13 := P7.f2 13 _ rfl; have P8 := P7.set 13 (by simp) (.slice A7 (outs.length + 1) c7); have hE8 := keep_els hE7 hNn.out (Gro.set wl.heap.size wl.heap.size 13 w7 (.slice A7 (outs.length + 1) c7)) (by omega); have z9 : wq.heap.size ≤ (w7.setCell ⟨wl.heap.size, 13, none⟩ (.slice A7 (outs.length + 1) c7)).heap.size := (by rw [World.size_setCell]; exact Nat.le_trans zB hg7.size); clear P7 hE7 hat7 own7 hg7; replace P8 := hid P8; replace hE8 := hid hE8; replace z9 := hid z9)
          clear C13 D13 F13 hR
          generalize World.setCell _ _ _ = w9 at P8 hE8 z9 ⊢
          have P9 := P8.out
          simp only [List.set_cons_zero, List.set_cons_succ] at P9
          replace P9 := hid P9
          clear P8
          go_wp2_with fail
          go_roundw
          case rel => exact ⟨k + 1, t3, outs ++ [⟨f1, f2, A6, c6, f3⟩], _, by go_num, ⟨by rw [List.length_append, HL0.out]; rfl, by omega, fun _ => by rw [HM.out]; omega⟩, by rw [HGL.out, List.map_append, List.append_assoc, HM.out, HGV.out]; rfl, hE8.out, hNn.out, z9.out, P9.out⟩
          case measure => simp [RowKit.intOf]; omega
        · rw [decide_eq_false hgo]
          have HEX : Hid (getL getV mn.toNat lo sc = (outs.map En.data, sk)) := by
            refine hid ?_
            rw [hgl]
            by_cases hz : sk.2 = 0
            · rw [show mn.toNat - k = 0 by omega]; simp [getL]
            · rw [getL_err getV _ lo sk hz]; simp
          have hol : outs.length ≤ 64 := by omega
          clear hgl hgo hl0 hl2
          replace hR := hR.more (Y := fun W => OwnEls enEl W wq.heap.size 43 v outs) hE (fun kk W1 W2 hkk hG hs hy => keep_els hy hN hG (by omega))
          clear hE
          obtain ⟨Av, cv, rfl, hcv, hmv, _⟩ := hR.x.2.rd
          -- the checkpoint
          go_wp2_with fail
          refine (rdtext_any hR.rr).mono ?_
          rintro e x3 ⟨v9, rfl, o3, h3, G3⟩
          have z3 := hR.r2.1
          replace hR := hR.next h3 G3
          obtain ⟨e9, s9, he9⟩ : ∃ e s, nx bytesR [] lo sk = (e, s) := ⟨_, _, rfl⟩
          rw [he9] at hR o3
          obtain ⟨A9, c9, rfl, hc9, hm9, _⟩ := own_shape o3
          replace hR := hR.more (own_mono o3 z3) (fun k W1 W2 hk hG _ hx => keep_ownk hk hG hx)
          have C := hR.c2 14 _ rfl
          have F := hR.f2 14 _ rfl
          replace hR := hR.set 14 (by simp) (.slice A9 e9.length c9)
          replace hR := hid hR
          go_upto_region 30 with fail
          clear C F h3 G3 o3 z3
          replace hR := hR.out
          generalize World.setCell _ _ _ = x4 at hR ⊢
          simp only [List.set_cons_zero, List.set_cons_succ] at hR
          obtain ⟨o, ho⟩ : ∃ o : Ma, o = ⟨n, A5, c5, e5, e6, e7, Av, cv, outs, A9, c9, e9⟩ := ⟨_, rfl⟩
          have hMA : ∀ W, (fun W => ((True ∧ W.ownsRow (wl.heap.size + 1) 5 1 (.slice A5 e5.length c5) e5.length (e5.map byt)) ∧ OwnEls enEl W wq.heap.size 43 (.slice Av outs.length cv) outs) ∧ W.ownsRow (wl.heap.size + 1) 5 1 (.slice A9 e9.length c9) e9.length (e9.map byt)) W → MaRd W o := fun W hx => by
            rw [ho]
            exact ⟨own_rd hx.1.1.2, ⟨own_rd hx.1.2.1, fun a ha p hp => (hx.1.2.2 a ha p hp).1⟩, own_rd hx.2, ⟨hc5, hm5⟩, ⟨hcv, hmv⟩, ⟨hc9, hm9⟩⟩
          have hOd : o.data = (n, e5, e6, e7, outs.map En.data, e9) := by rw [ho]; rfl
          have hOv : o.val = .agg #[.int .i64 n.1, .int .i64 n.2.1, .int .i64 n.2.2.1, .int .i64 n.2.2.2.1, .int .i64 n.2.2.2.2.1, .int .i64 n.2.2.2.2.2.1, .int .i64 n.2.2.2.2.2.2.1, .int .i64 n.2.2.2.2.2.2.2.1, .int .i64 n.2.2.2.2.2.2.2.2.1, .int .i64 n.2.2.2.2.2.2.2.2.2, .slice A5 e5.length c5, .bool e6, .int .i64 e7, .slice Av outs.length cv, .slice A9 e9.length c9] := by rw [ho]; rfl
          replace ho := hid ho
          have eG : Hid (getM lo (0, 0) = (o.data, s9)) := by
            refine hid ?_
            rw [hOd]
            unfold getM
            have q := HEX.out
            have hc := HSC.out
            simp only [sq, g1, he5, he6, he7, cnt, he8, ← hc, q, he9]
          have hrd : Hid (readM lo = (if s9.2 = 0 then (if s9.1 = lo.length ∧ rightM o.data = true then (o.data, 0) else (zeroM, 151)) else (zeroM, s9.2))) := by
            refine hid ?_
            unfold readM whole
            rw [eG.out]
          clear eG g1 he5 he6 he7 he8 he9 HEX HSC
          replace hOd := hid hOd
          have C2 := (hR.rr.row.2 2 _ rfl).1
          obtain ⟨p9, r9⟩ := s9
          dsimp only at hrd C2
          by_cases hz : r9 = 0
          case neg =>
            have jz : (r9 != 0) = true := by simp [hz]
            replace hR := hid hR
            go_upto_region 31 with fail
            have bcur := (Below.refl x4.heap.size x4).drew
            have hRd := hR.out.on bcur
            refine wp_region_noPanic ?_
            refine wp_region_held_drew (S := (fun W => W.cell? ⟨w2.heap.size, 2, none⟩ = some (.int .i64 r9))) (by kernel_rfl) ?_ (fun hHeld => ?_)
            · exact C2
            refine wpAnyH_take (i := 0) (oi := ?oi17) (v := ?v17) ?hi17 (by kernel_rfl) (by kernel_rfl) (by kernel_rfl) ?hQ17 ?hy17 (by assumption) ?hrest17
            case hi17 => (simp only [List.getElem?_toArray, List.getElem?_cons_zero]; try rfl)
            case hQ17 => exact fun _ _ _ h => h
            case hy17 =>
              refine Or.inl ⟨by rfl, ?_⟩
              (intro wq hSw; (try dsimp only at hSw); go_simp; try with_reducible rfl)
            (try simp only [Act.put, List.setIfInBounds_toArray, List.set_cons_zero, List.set_cons_succ])
            refine wpAnyH_take (i := 1) (oi := ?oi18) (v := ?v18) ?hi18 (by kernel_rfl) (by kernel_rfl) (by kernel_rfl) ?hQ18 ?hy18 (by assumption) ?hrest18
            case hi18 => (simp only [List.getElem?_toArray, List.getElem?_cons_succ, List.getElem?_cons_zero]; try rfl)
            case hQ18 => exact fun _ _ _ h => h
            case hy18 =>
              refine Or.inl ⟨by rfl, ?_⟩
              (intro wq hSw; (try dsimp only at hSw); go_simp; try with_reducible rfl)
            (try simp only [Act.put, List.setIfInBounds_toArray, List.set_cons_zero, List.set_cons_succ])
            refine wpAnyH_take (i := 2) (oi := ?oi19) (v := ?v19) ?hi19 (by kernel_rfl) (by kernel_rfl) (by kernel_rfl) ?hQ19 ?hy19 (by assumption) ?hrest19
            case hi19 => (simp only [List.getElem?_toArray, List.getElem?_cons_succ, List.getElem?_cons_zero]; try rfl)
            case hQ19 => exact fun _ _ _ h => h
            case hy19 =>
              refine Or.inl ⟨by rfl, ?_⟩
              (intro wq hSw; (try dsimp only at hSw); go_simp; try with_reducible rfl)
            (try simp only [Act.put, List.setIfInBounds_toArray, List.set_cons_zero, List.set_cons_succ])
            refine wpAnyH_take (i := 3) (oi := ?oi20) (v := ?v20) ?hi20 (by kernel_rfl) (by kernel_rfl) (by kernel_rfl) ?hQ20 ?hy20 (by assumption) ?hrest20
            case hi20 => (simp only [List.getElem?_toArray, List.getElem?_cons_succ, List.getElem?_cons_zero]; try rfl)
            case hQ20 => exact fun _ _ _ h => h
            case hy20 =>
              refine Or.inl ⟨by rfl, ?_⟩
              (intro wq hSw; (try dsimp only at hSw); go_simp; try with_reducible rfl)
            (try simp only [Act.put, List.setIfInBounds_toArray, List.set_cons_zero, List.set_cons_succ])
            refine wpAnyH_take (i := 4) (oi := ?oi21) (v := ?v21) ?hi21 (by kernel_rfl) (by kernel_rfl) (by kernel_rfl) ?hQ21 ?hy21 (by assumption) ?hrest21
            case hi21 => (simp only [List.getElem?_toArray, List.getElem?_cons_succ, List.getElem?_cons_zero]; try rfl)
            case hQ21 => exact fun _ _ _ h => h
            case hy21 =>
              refine Or.inl ⟨by rfl, ?_⟩
              (intro wq hSw; (try dsimp only at hSw); go_simp; try with_reducible rfl)
            (try simp only [Act.put, List.setIfInBounds_toArray, List.set_cons_zero, List.set_cons_succ])
            refine wpAnyH_ready (rs := [5]) (by kernel_rfl) (by simp) ?_
            refine AllReadyH.cons (o := ?oi22) ?hi22 (fun K hK => ?hstep22) AllReadyH.nil
            case hi22 => (simp only [List.getElem?_toArray, List.getElem?_cons_succ, List.getElem?_cons_zero]; try rfl)
            (refine oper_store_mid rfl 28 (.tmp 2) (.tmp 152) rfl w.heap.size [.int .i64 0, .int .i64 0, .int .i64 0, .int .i64 0, .int .i64 0, .int .i64 0, .int .i64 0, .int .i64 0, .int .i64 0, .int .i64 0, .slice none 0 0, .bool false, .int .i64 0, .slice none 0 0, .slice none 0 0] _ rfl rfl hRd.r1 rfl (by kernel_rfl) (by decide) ?_; have RR := hRd.r1.setCells (us := [.int .i64 0, .int .i64 0, .int .i64 0, .int .i64 0, .int .i64 0, .int .i64 0, .int .i64 0, .int .i64 0, .int .i64 0, .int .i64 0, .slice none 0 0, .bool false, .int .i64 0, .slice none 0 0, .slice none 0 0]) rfl; have bb := below_setCells hRd.below (Nat.le_refl _) [.int .i64 0, .int .i64 0, .int .i64 0, .int .i64 0, .int .i64 0, .int .i64 0, .int .i64 0, .int .i64 0, .int .i64 0, .int .i64 0, .slice none 0 0, .bool false, .int .i64 0, .slice none 0 0, .slice none 0 0])
            refine hK.out _ _ ?_ (fun hHeld => ?_)
            · exact (World.cell?_of_block (a := ⟨w2.heap.size, 2, none⟩) (heap_setCells (by show w2.heap.size ≠ w.heap.size; omega) _ _ _)).trans C2
            clear hK K
            (try dsimp only)
            refine wpAnyH_take (i := 6) (oi := ?oi23) (v := ?v23) ?hi23 (by kernel_rfl) (by kernel_rfl) (by kernel_rfl) ?hQ23 ?hy23 (by assumption) ?hrest23
            case hi23 => (simp only [List.getElem?_toArray, List.getElem?_cons_succ, List.getElem?_cons_zero]; try rfl)
            case hQ23 => exact fun _ _ _ h => h
            case hy23 =>
              refine Or.inl ⟨by rfl, ?_⟩
              (intro wq hSw; (try dsimp only at hSw); go_simp; try with_reducible rfl)
            (try simp only [Act.put, List.setIfInBounds_toArray, List.set_cons_zero, List.set_cons_succ])
            refine wpAnyH_done (by kernel_rfl) ?_ _
            refine NoPanic.normal ?_
            (skip)
            generalize World.setCells _ _ _ _ = w7 at RR bb ⊢
            go_wp2_with fail
            refine bodyPost_ret (results_cell2 (k := 2) (k2 := 3) (t := 28) Tryd.results14 rfl rfl RR Tryd.underlying28 rfl (by kernel_rfl)) rfl ?_
            have h9 := hrd.out
            rw [if_neg hz] at h9
            rw [hrs.out, h9]
            exact ⟨zeroMa, rfl, rfl, zeroMa_rd _, bb⟩
          subst hz
          have hRT := rpright_any (hMA x4 hR.x)
          rw [hOv] at hRT
          replace hRT := hid hRT
          replace hOv := hid hOv
          have D0 := hR.c2 0 _ rfl
          have D1 := hR.c2 1 _ rfl
          have D2 := hR.c2 2 _ rfl
          have D3 := hR.c2 3 _ rfl
          have D4 := hR.c2 4 _ rfl
          have D5 := hR.c2 5 _ rfl
          have D6 := hR.c2 6 _ rfl
          have D7 := hR.c2 7 _ rfl
          have D8 := hR.c2 8 _ rfl
          have D9 := hR.c2 9 _ rfl
          have D10 := hR.c2 10 _ rfl
          have D11 := hR.c2 11 _ rfl
          have D12 := hR.c2 12 _ rfl
          have D13 := hR.c2 13 _ rfl
          have D14 := hR.c2 14 _ rfl
          replace hR := hid hR
          go_wp2_with fail
          refine hRT.out.mono ?_
          rintro e x5 ⟨rfl, hb5⟩
          clear hRT C2 D0 D1 D2 D3 D4 D5 D6 D7 D8 D9 D10 D11 D12 D13 D14
          replace hR := hR.out.on hb5
          have C1 := (hR.rr.row.2 1 _ rfl).1
          have C0 := (hR.rr.row.2 0 _ rfl).1
          obtain ⟨ro, hro⟩ : ∃ ro, ro = rightM o.data := ⟨_, rfl⟩
          rw [← hro] at hrd ⊢
          replace hro := hid hro
          replace hR := hid hR
          go_upto_region 33 with fail
          have bcur := (Below.refl x5.heap.size x5).drew
          have k0 := fun W (hW : Below x5.heap.size x5 W) => cell_on hW C0
          have k1 := fun W (hW : Below x5.heap.size x5 W) => cell_on hW C1
          have Rd5 := hid (hR.out.on bcur)
          have fin : ∀ (W : World), Row W w.heap.size [.int .i64 0, .int .i64 0, .int .i64 0, .int .i64 0, .int .i64 0, .int .i64 0, .int .i64 0, .int .i64 0, .int .i64 0, .int .i64 0, .slice none 0 0, .bool false, .int .i64 0, .slice none 0 0, .slice none 0 0] → Below w.heap.size w W → ¬ (p9 = (lo.length : Int) ∧ ro = true) → (∃ o : Ma, (Ending.returned (.tuple #[.agg #[.int .i64 0, .int .i64 0, .int .i64 0, .int .i64 0, .int .i64 0, .int .i64 0, .int .i64 0, .int .i64 0, .int .i64 0, .int .i64 0, .slice none 0 0, .bool false, .int .i64 0, .slice none 0 0, .slice none 0 0], .int .i64 151])) = .returned (.tuple #[o.val, .int .i64 (readS l).2]) ∧ o.data = (readS l).1 ∧ MaRd W o ∧ Below w.heap.size w W) := fun W hW hB hn => by
            have h9 := hrd.out
            rw [if_pos trivial, if_neg hn] at h9
            rw [hrs.out, h9]
            exact ⟨zeroMa, rfl, rfl, zeroMa_rd _, hB⟩
          replace fin := hid fin
          by_cases hp : p9 = (lo.length : Int)
          case neg =>
            have jp : (p9 != (lo.length : Int)) = true := by simp [hp]
            replace hp := hid hp
            as_aux_lemma =>
            refine wp_region_noPanic ?_
            refine wp_region_held_drew (S := (fun W => Below x5.heap.size x5 W)) (by kernel_rfl) ?_ (fun hHeld => ?_)
            · exact (Below.refl _ _).drew
            refine wpAnyH_take (i := 0) (oi := ?oi24) (v := ?v24) ?hi24 (by kernel_rfl) (by kernel_rfl) (by kernel_rfl) ?hQ24 ?hy24 (by assumption) ?hrest24
            case hi24 => (simp only [List.getElem?_toArray, List.getElem?_cons_zero]; try rfl)
            case hQ24 => exact fun _ _ _ h => h
            case hy24 =>
              refine Or.inl ⟨by rfl, ?_⟩
              (intro wq hSw; (try dsimp only at hSw); go_simp; try with_reducible rfl)
            (try simp only [Act.put, List.setIfInBounds_toArray, List.set_cons_zero, List.set_cons_succ])
            refine wpAnyH_take (i := 1) (oi := ?oi25) (v := ?v25) ?hi25 (by kernel_rfl) (by kernel_rfl) (by kernel_rfl) ?hQ25 ?hy25 (by assumption) ?hrest25
            case hi25 => (simp only [List.getElem?_toArray, List.getElem?_cons_succ, List.getElem?_cons_zero]; try rfl)
            case hQ25 => exact fun _ _ _ h => h
            case hy25 =>
              refine Or.inl ⟨by rfl, ?_⟩
              (intro wq hSw; (try dsimp only at hSw); go_simp; try with_reducible rfl)
            (try simp only [Act.put, List.setIfInBounds_toArray, List.set_cons_zero, List.set_cons_succ])
            refine wpAnyH_take (i := 2) (oi := ?oi26) (v := ?v26) ?hi26 (by kernel_rfl) (by kernel_rfl) (by kernel_rfl) ?hQ26 ?hy26 (by assumption) ?hrest26
            case hi26 => (simp only [List.getElem?_toArray, List.getElem?_cons_succ, List.getElem?_cons_zero]; try rfl)
            case hQ26 => exact fun _ _ _ h => h
            case hy26 =>
              refine Or.inl ⟨by rfl, ?_⟩
              (intro wq hSw; (try dsimp only at hSw); go_simp; try with_reducible rfl)
            (try simp only [Act.put, List.setIfInBounds_toArray, List.set_cons_zero, List.set_cons_succ])
            refine wpAnyH_take (i := 3) (oi := ?oi27) (v := ?v27) ?hi27 (by kernel_rfl) (by kernel_rfl) (by kernel_rfl) ?hQ27 ?hy27 (by assumption) ?hrest27
            case hi27 => (simp only [List.getElem?_toArray, List.getElem?_cons_succ, List.getElem?_cons_zero]; try rfl)
            case hQ27 => exact fun _ _ _ h => h
            case hy27 =>
              refine Or.inl ⟨by rfl, ?_⟩
              (intro wq hSw; (try dsimp only at hSw); go_simp; try with_reducible rfl)
            (try simp only [Act.put, List.setIfInBounds_toArray, List.set_cons_zero, List.set_cons_succ])
            refine wpAnyH_take (i := 4) (oi := ?oi28) (v := ?v28) ?hi28 (by kernel_rfl) (by kernel_rfl) (by kernel_rfl) ?hQ28 ?hy28 (by assumption) ?hrest28
            case hi28 => (simp only [List.getElem?_toArray, List.getElem?_cons_succ, List.getElem?_cons_zero]; try rfl)
            case hQ28 => exact fun _ _ _ h => h
            case hy28 =>
              refine Or.inl ⟨by rfl, ?_⟩
              (intro wq hSw; (try dsimp only at hSw); go_simp; try with_reducible rfl)
            (try simp only [Act.put, List.setIfInBounds_toArray, List.set_cons_zero, List.set_cons_succ])
            refine wpAnyH_take (i := 5) (oi := ?oi29) (v := ?v29) ?hi29 (by kernel_rfl) (by kernel_rfl) (by kernel_rfl) ?hQ29 ?hy29 (by assumption) ?hrest29
            case hi29 => (simp only [List.getElem?_toArray, List.getElem?_cons_succ, List.getElem?_cons_zero]; try rfl)
            case hQ29 => exact fun _ _ _ h => h
            case hy29 =>
              refine Or.inl ⟨by rfl, ?_⟩
              (intro wq hSw; (try dsimp only at hSw); go_simp; try with_reducible rfl)
            (try simp only [Act.put, List.setIfInBounds_toArray, List.set_cons_zero, List.set_cons_succ])
            refine wpAnyH_take (i := 6) (oi := ?oi30) (v := ?v30) ?hi30 (by kernel_rfl) (by kernel_rfl) (by kernel_rfl) ?hQ30 ?hy30 (by assumption) ?hrest30
            case hi30 => (simp only [List.getElem?_toArray, List.getElem?_cons_succ, List.getElem?_cons_zero]; try rfl)
            case hQ30 => exact fun _ _ _ h => h
            case hy30 =>
              refine Or.inl ⟨by rfl, ?_⟩
              (intro wq hSw; (try dsimp only at hSw); go_simp; try with_reducible rfl)
            (try simp only [Act.put, List.setIfInBounds_toArray, List.set_cons_zero, List.set_cons_succ])
            refine wpAnyH_take (i := 7) (oi := ?oi31) (v := ?v31) ?hi31 (by kernel_rfl) (by kernel_rfl) (by kernel_rfl) ?hQ31 ?hy31 (by assumption) ?hrest31
            case hi31 => (simp only [List.getElem?_toArray, List.getElem?_cons_succ, List.getElem?_cons_zero]; try rfl)
            case hQ31 => exact fun _ _ _ h => h
            case hy31 =>
              refine Or.inl ⟨by rfl, ?_⟩
              (intro wq hSw; (try dsimp only at hSw); go_simp; try with_reducible rfl)
            (try simp only [Act.put, List.setIfInBounds_toArray, List.set_cons_zero, List.set_cons_succ])
            refine wpAnyH_take (i := 8) (oi := ?oi32) (v := ?v32) ?hi32 (by kernel_rfl) (by kernel_rfl) (by kernel_rfl) ?hQ32 ?hy32 (by assumption) ?hrest32
            case hi32 => (simp only [List.getElem?_toArray, List.getElem?_cons_succ, List.getElem?_cons_zero]; try rfl)
            case hQ32 => exact fun _ _ _ h => h
            case hy32 =>
              refine Or.inl ⟨by rfl, ?_⟩
              (intro wq hSw; (try dsimp only at hSw); go_simp; try with_reducible rfl)
            (try simp only [Act.put, List.setIfInBounds_toArray, List.set_cons_zero, List.set_cons_succ])
            refine wpAnyH_take (i := 9) (oi := ?oi33) (v := ?v33) ?hi33 (by kernel_rfl) (by kernel_rfl) (by kernel_rfl) ?hQ33 ?hy33 (by assumption) ?hrest33
            case hi33 => (simp only [List.getElem?_toArray, List.getElem?_cons_succ, List.getElem?_cons_zero]; try rfl)
            case hQ33 => exact fun _ _ _ h => h
            case hy33 =>
              refine Or.inl ⟨by rfl, ?_⟩
              (intro wq hSw; (try dsimp only at hSw); go_simp; try with_reducible rfl)
            (try simp only [Act.put, List.setIfInBounds_toArray, List.set_cons_zero, List.set_cons_succ])
            refine wpAnyH_take (i := 10) (oi := ?oi34) (v := ?v34) ?hi34 (by kernel_rfl) (by kernel_rfl) (by kernel_rfl) ?hQ34 ?hy34 (by assumption) ?hrest34
            case hi34 => (simp only [List.getElem?_toArray, List.getElem?_cons_succ, List.getElem?_cons_zero]; try rfl)
            case hQ34 => exact fun _ _ _ h => h
            case hy34 =>
              refine Or.inl ⟨by rfl, ?_⟩
              (intro wq hSw; (try dsimp only at hSw); go_simp; try with_reducible rfl)
            (try simp only [Act.put, List.setIfInBounds_toArray, List.set_cons_zero, List.set_cons_succ])
            refine wpAnyH_take (i := 11) (oi := ?oi35) (v := undef) ?hi35 (by kernel_rfl) (by kernel_rfl) (by kernel_rfl) ?hQ35 ?hy35 (by assumption) ?hrest35
            case hi35 => (simp only [List.getElem?_toArray, List.getElem?_cons_succ, List.getElem?_cons_zero]; try rfl)
            case hQ35 => exact fun _ _ _ h => h
            case hy35 => exact Or.inr ⟨by rfl, rfl⟩
            (try simp only [Act.put, List.setIfInBounds_toArray, List.set_cons_zero, List.set_cons_succ])
            refine wpAnyH_take (i := 12) (oi := ?oi36) (v := undef) ?hi36 (by kernel_rfl) (by kernel_rfl) (by kernel_rfl) ?hQ36 ?hy36 (by assumption) ?hrest36
            case hi36 => (simp only [List.getElem?_toArray, List.getElem?_cons_succ, List.getElem?_cons_zero]; try rfl)
            case hQ36 => exact fun _ _ _ h => h
            case hy36 => exact Or.inr ⟨by rfl, rfl⟩
            (try simp only [Act.put, List.setIfInBounds_toArray, List.set_cons_zero, List.set_cons_succ])
            refine wpAnyH_take (i := 13) (oi := ?oi37) (v := ?v37) ?hi37 (by kernel_rfl) (by kernel_rfl) (by kernel_rfl) ?hQ37 ?hy37 (by assumption) ?hrest37
            case hi37 => (simp only [List.getElem?_toArray, List.getElem?_cons_succ, List.getElem?_cons_zero]; try rfl)
            case hQ37 => exact fun _ _ _ h => h
            case hy37 =>
              refine Or.inl ⟨by rfl, ?_⟩
              (intro wq hSw; (try dsimp only at hSw); go_simp; try with_reducible rfl)
            (try simp only [Act.put, List.setIfInBounds_toArray, List.set_cons_zero, List.set_cons_succ])
            refine wpAnyH_done (by kernel_rfl) ?_ _
            refine NoPanic.normal ?_
            (skip)
            clear hHeld k0 k1
            have RZ := Rd5.out.r1
            have RZ2 := hid (RZ.setCells (us := [.int .i64 0, .int .i64 0, .int .i64 0, .int .i64 0, .int .i64 0, .int .i64 0, .int .i64 0, .int .i64 0, .int .i64 0, .int .i64 0, .slice none 0 0, .bool false, .int .i64 0, .slice none 0 0, .slice none 0 0]) rfl)
            have bZ := hid (below_setCells Rd5.out.below (Nat.le_refl _) [.int .i64 0, .int .i64 0, .int .i64 0, .int .i64 0, .int .i64 0, .int .i64 0, .int .i64 0, .int .i64 0, .int .i64 0, .int .i64 0, .slice none 0 0, .bool false, .int .i64 0, .slice none 0 0, .slice none 0 0])
            generalize x5.drew = xd at RZ RZ2 bZ ⊢
            go_wp2_with (refine wpList_store_lit w.heap.size [.int .i64 0, .int .i64 0, .int .i64 0, .int .i64 0, .int .i64 0, .int .i64 0, .int .i64 0, .int .i64 0, .int .i64 0, .int .i64 0, .slice none 0 0, .bool false, .int .i64 0, .slice none 0 0, .slice none 0 0] [.int .i64 0, .int .i64 0, .int .i64 0, .int .i64 0, .int .i64 0, .int .i64 0, .int .i64 0, .int .i64 0, .int .i64 0, .int .i64 0, .slice none 0 0, .bool false, .int .i64 0, .slice none 0 0, .slice none 0 0] ?_ ?_ ?_ rfl (by kernel_rfl) rfl ?_; (· rfl); (· rfl); (· exact RZ))
            refine bodyPost_ret (results_cell2 (k := 2) (k2 := 3) (t := 28) Tryd.results14 rfl rfl RZ2.out Tryd.underlying28 rfl (by kernel_rfl)) rfl ?_
            exact fin.out _ RZ2.out bZ.out (fun hh => hp.out hh.1)
          have jp : (p9 != (lo.length : Int)) = false := by simp [hp]
          replace hp := hid hp
          cases hrb : ro
          case false =>
            replace hrb := hid hrb
            as_aux_lemma =>
            refine wp_region_noPanic ?_
            refine wp_region_held_drew (S := (fun W => Below x5.heap.size x5 W)) (by kernel_rfl) ?_ (fun hHeld => ?_)
            · exact (Below.refl _ _).drew
            refine wpAnyH_take (i := 0) (oi := ?oi38) (v := ?v38) ?hi38 (by kernel_rfl) (by kernel_rfl) (by kernel_rfl) ?hQ38 ?hy38 (by assumption) ?hrest38
            case hi38 => (simp only [List.getElem?_toArray, List.getElem?_cons_zero]; try rfl)
            case hQ38 => exact fun _ _ _ h => h
            case hy38 =>
              refine Or.inl ⟨by rfl, ?_⟩
              (intro wq hSw; (try dsimp only at hSw); go_simp; try with_reducible rfl)
            (try simp only [Act.put, List.setIfInBounds_toArray, List.set_cons_zero, List.set_cons_succ])
            refine wpAnyH_take (i := 1) (oi := ?oi39) (v := ?v39) ?hi39 (by kernel_rfl) (by kernel_rfl) (by kernel_rfl) ?hQ39 ?hy39 (by assumption) ?hrest39
            case hi39 => (simp only [List.getElem?_toArray, List.getElem?_cons_succ, List.getElem?_cons_zero]; try rfl)
            case hQ39 => exact fun _ _ _ h => h
            case hy39 =>
              refine Or.inl ⟨by rfl, ?_⟩
              (intro wq hSw; (try dsimp only at hSw); go_simp; try with_reducible rfl)
            (try simp only [Act.put, List.setIfInBounds_toArray, List.set_cons_zero, List.set_cons_succ])
            refine wpAnyH_take (i := 2) (oi := ?oi40) (v := ?v40) ?hi40 (by kernel_rfl) (by kernel_rfl) (by kernel_rfl) ?hQ40 ?hy40 (by assumption) ?hrest40
            case hi40 => (simp only [List.getElem?_toArray, List.getElem?_cons_succ, List.getElem?_cons_zero]; try rfl)
            case hQ40 => exact fun _ _ _ h => h
            case hy40 =>
              refine Or.inl ⟨by rfl, ?_⟩
              (intro wq hSw; (try dsimp only at hSw); go_simp; try with_reducible rfl)
            (try simp only [Act.put, List.setIfInBounds_toArray, List.set_cons_zero, List.set_cons_succ])
            refine wpAnyH_take (i := 3) (oi := ?oi41) (v := ?v41) ?hi41 (by kernel_rfl) (by kernel_rfl) (by kernel_rfl) ?hQ41 ?hy41 (by assumption) ?hrest41
            case hi41 => (simp only [List.getElem?_toArray, List.getElem?_cons_succ, List.getElem?_cons_zero]; try rfl)
            case hQ41 => exact fun _ _ _ h => h
            case hy41 =>
              refine Or.inl ⟨by rfl, ?_⟩
              (intro wq hSw; (try dsimp only at hSw); go_simp; try with_reducible rfl)
            (try simp only [Act.put, List.setIfInBounds_toArray, List.set_cons_zero, List.set_cons_succ])
            refine wpAnyH_take (i := 4) (oi := ?oi42) (v := ?v42) ?hi42 (by kernel_rfl) (by kernel_rfl) (by kernel_rfl) ?hQ42 ?hy42 (by assumption) ?hrest42
            case hi42 => (simp only [List.getElem?_toArray, List.getElem?_cons_succ, List.getElem?_cons_zero]; try rfl)
            case hQ42 => exact fun _ _ _ h => h
            case hy42 =>
              refine Or.inl ⟨by rfl, ?_⟩
              (intro wq hSw; (try dsimp only at hSw); go_simp; try with_reducible rfl)
            (try simp only [Act.put, List.setIfInBounds_toArray, List.set_cons_zero, List.set_cons_succ])
            refine wpAnyH_take (i := 5) (oi := ?oi43) (v := ?v43) ?hi43 (by kernel_rfl) (by kernel_rfl) (by kernel_rfl) ?hQ43 ?hy43 (by assumption) ?hrest43
            case hi43 => (simp only [List.getElem?_toArray, List.getElem?_cons_succ, List.getElem?_cons_zero]; try rfl)
            case hQ43 => exact fun _ _ _ h => h
            case hy43 =>
              refine Or.inl ⟨by rfl, ?_⟩
              (intro wq hSw; (try dsimp only at hSw); go_simp; try with_reducible rfl)
            (try simp only [Act.put, List.setIfInBounds_toArray, List.set_cons_zero, List.set_cons_succ])
            refine wpAnyH_take (i := 6) (oi := ?oi44) (v := ?v44) ?hi44 (by kernel_rfl) (by kernel_rfl) (by kernel_rfl) ?hQ44 ?hy44 (by assumption) ?hrest44
            case hi44 => (simp only [List.getElem?_toArray, List.getElem?_cons_succ, List.getElem?_cons_zero]; try rfl)
            case hQ44 => exact fun _ _ _ h => h
            case hy44 =>
              refine Or.inl ⟨by rfl, ?_⟩
              (intro wq hSw; (try dsimp only at hSw); go_simp; try with_reducible rfl)
            (try simp only [Act.put, List.setIfInBounds_toArray, List.set_cons_zero, List.set_cons_succ])
            refine wpAnyH_take (i := 7) (oi := ?oi45) (v := ?v45) ?hi45 (by kernel_rfl) (by kernel_rfl) (by kernel_rfl) ?hQ45 ?hy45 (by assumption) ?hrest45
            case hi45 => (simp only [List.getElem?_toArray, List.getElem?_cons_succ, List.getElem?_cons_zero]; try rfl)
            case hQ45 => exact fun _ _ _ h => h
            case hy45 =>
              refine Or.inl ⟨by rfl, ?_⟩
              (intro wq hSw; (try dsimp only at hSw); go_simp; try with_reducible rfl)
            (try simp only [Act.put, List.setIfInBounds_toArray, List.set_cons_zero, List.set_cons_succ])
            refine wpAnyH_take (i := 8) (oi := ?oi46) (v := ?v46) ?hi46 (by kernel_rfl) (by kernel_rfl) (by kernel_rfl) ?hQ46 ?hy46 (by assumption) ?hrest46
            case hi46 => (simp only [List.getElem?_toArray, List.getElem?_cons_succ, List.getElem?_cons_zero]; try rfl)
            case hQ46 => exact fun _ _ _ h => h
            case hy46 =>
              refine Or.inl ⟨by rfl, ?_⟩
              (intro wq hSw; (try dsimp only at hSw); go_simp; try with_reducible rfl)
            (try simp only [Act.put, List.setIfInBounds_toArray, List.set_cons_zero, List.set_cons_succ])
            refine wpAnyH_take (i := 9) (oi := ?oi47) (v := ?v47) ?hi47 (by kernel_rfl) (by kernel_rfl) (by kernel_rfl) ?hQ47 ?hy47 (by assumption) ?hrest47
            case hi47 => (simp only [List.getElem?_toArray, List.getElem?_cons_succ, List.getElem?_cons_zero]; try rfl)
            case hQ47 => exact fun _ _ _ h => h
            case hy47 =>
              refine Or.inl ⟨by rfl, ?_⟩
              (intro wq hSw; (try dsimp only at hSw); go_simp; try with_reducible rfl)
            (try simp only [Act.put, List.setIfInBounds_toArray, List.set_cons_zero, List.set_cons_succ])
            refine wpAnyH_take (i := 10) (oi := ?oi48) (v := ?v48) ?hi48 (by kernel_rfl) (by kernel_rfl) (by kernel_rfl) ?hQ48 ?hy48 (by assumption) ?hrest48
            case hi48 => (simp only [List.getElem?_toArray, List.getElem?_cons_succ, List.getElem?_cons_zero]; try rfl)
            case hQ48 => exact fun _ _ _ h => h
            case hy48 =>
              refine Or.inl ⟨by rfl, ?_⟩
              (intro wq hSw; (try dsimp only at hSw); go_simp; try with_reducible rfl)
            (try simp only [Act.put, List.setIfInBounds_toArray, List.set_cons_zero, List.set_cons_succ])
            refine wpAnyH_take (i := 11) (oi := ?oi49) (v := ?v49) ?hi49 (by kernel_rfl) (by kernel_rfl) (by kernel_rfl) ?hQ49 ?hy49 (by assumption) ?hrest49
            case hi49 => (simp only [List.getElem?_toArray, List.getElem?_cons_succ, List.getElem?_cons_zero]; try rfl)
            case hQ49 => exact fun _ _ _ h => h
            case hy49 =>
              refine Or.inl ⟨by rfl, ?_⟩
              (intro wq hSw; (try dsimp only at hSw); go_simp; try with_reducible rfl)
            (try simp only [Act.put, List.setIfInBounds_toArray, List.set_cons_zero, List.set_cons_succ])
            refine wpAnyH_take (i := 12) (oi := ?oi50) (v := ?v50) ?hi50 (by kernel_rfl) (by kernel_rfl) (by kernel_rfl) ?hQ50 ?hy50 (by assumption) ?hrest50
            case hi50 => (simp only [List.getElem?_toArray, List.getElem?_cons_succ, List.getElem?_cons_zero]; try rfl)
            case hQ50 => exact fun _ _ _ h => h
            case hy50 =>
              refine Or.inl ⟨by rfl, ?_⟩
              (intro wq hSw; (try dsimp only at hSw); go_simp; try with_reducible rfl)
            (try simp only [Act.put, List.setIfInBounds_toArray, List.set_cons_zero, List.set_cons_succ])
            refine wpAnyH_take (i := 13) (oi := ?oi51) (v := ?v51) ?hi51 (by kernel_rfl) (by kernel_rfl) (by kernel_rfl) ?hQ51 ?hy51 (by assumption) ?hrest51
            case hi51 => (simp only [List.getElem?_toArray, List.getElem?_cons_succ, List.getElem?_cons_zero]; try rfl)
            case hQ51 => exact fun _ _ _ h => h
            case hy51 =>
              refine Or.inl ⟨by rfl, ?_⟩
              (intro wq hSw; (try dsimp only at hSw); go_simp; try with_reducible rfl)
            (try simp only [Act.put, List.setIfInBounds_toArray, List.set_cons_zero, List.set_cons_succ])
            refine wpAnyH_done (by kernel_rfl) ?_ _
            refine NoPanic.normal ?_
            (skip)
            clear hHeld k0 k1
            have RZ := Rd5.out.r1
            have RZ2 := hid (RZ.setCells (us := [.int .i64 0, .int .i64 0, .int .i64 0, .int .i64 0, .int .i64 0, .int .i64 0, .int .i64 0, .int .i64 0, .int .i64 0, .int .i64 0, .slice none 0 0, .bool false, .int .i64 0, .slice none 0 0, .slice none 0 0]) rfl)
            have bZ := hid (below_setCells Rd5.out.below (Nat.le_refl _) [.int .i64 0, .int .i64 0, .int .i64 0, .int .i64 0, .int .i64 0, .int .i64 0, .int .i64 0, .int .i64 0, .int .i64 0, .int .i64 0, .slice none 0 0, .bool false, .int .i64 0, .slice none 0 0, .slice none 0 0])
            generalize x5.drew = xd at RZ RZ2 bZ ⊢
            go_wp2_with (refine wpList_store_lit w.heap.size [.int .i64 0, .int .i64 0, .int .i64 0, .int .i64 0, .int .i64 0, .int .i64 0, .int .i64 0, .int .i64 0, .int .i64 0, .int .i64 0, .slice none 0 0, .bool false, .int .i64 0, .slice none 0 0, .slice none 0 0] [.int .i64 0, .int .i64 0, .int .i64 0, .int .i64 0, .int .i64 0, .int .i64 0, .int .i64 0, .int .i64 0, .int .i64 0, .int .i64 0, .slice none 0 0, .bool false, .int .i64 0, .slice none 0 0, .slice none 0 0] ?_ ?_ ?_ rfl (by kernel_rfl) rfl ?_; (· rfl); (· rfl); (· exact RZ))
            refine bodyPost_ret (results_cell2 (k := 2) (k2 := 3) (t := 28) Tryd.results14 rfl rfl RZ2.out Tryd.underlying28 rfl (by kernel_rfl)) rfl ?_
            exact fin.out _ RZ2.out bZ.out (fun hh => by rw [hrb.out] at hh; exact absurd hh.2 (by decide))
          replace hrb := hid hrb
          as_aux_lemma =>
          refine wp_region_noPanic ?_
          refine wp_region_held_drew (S := (fun W => Below x5.heap.size x5 W)) (by kernel_rfl) ?_ (fun hHeld => ?_)
          · exact (Below.refl _ _).drew
          refine wpAnyH_take (i := 0) (oi := ?oi52) (v := ?v52) ?hi52 (by kernel_rfl) (by kernel_rfl) (by kernel_rfl) ?hQ52 ?hy52 (by assumption) ?hrest52
          case hi52 => (simp only [List.getElem?_toArray, List.getElem?_cons_zero]; try rfl)
          case hQ52 => exact fun _ _ _ h => h
          case hy52 =>
            refine Or.inl ⟨by rfl, ?_⟩
            (intro wq hSw; (try dsimp only at hSw); go_simp; try with_reducible rfl)
          (try simp only [Act.put, List.setIfInBounds_toArray, List.set_cons_zero, List.set_cons_succ])
          refine wpAnyH_take (i := 1) (oi := ?oi53) (v := ?v53) ?hi53 (by kernel_rfl) (by kernel_rfl) (by kernel_rfl) ?hQ53 ?hy53 (by assumption) ?hrest53
          case hi53 => (simp only [List.getElem?_toArray, List.getElem?_cons_succ, List.getElem?_cons_zero]; try rfl)
          case hQ53 => exact fun _ _ _ h => h
          case hy53 =>
            refine Or.inl ⟨by rfl, ?_⟩
            (intro wq hSw; (try dsimp only at hSw); go_simp; try with_reducible rfl)
          (try simp only [Act.put, List.setIfInBounds_toArray, List.set_cons_zero, List.set_cons_succ])
          refine wpAnyH_take (i := 2) (oi := ?oi54) (v := ?v54) ?hi54 (by kernel_rfl) (by kernel_rfl) (by kernel_rfl) ?hQ54 ?hy54 (by assumption) ?hrest54
          case hi54 => (simp only [List.getElem?_toArray, List.getElem?_cons_succ, List.getElem?_cons_zero]; try rfl)
          case hQ54 => exact fun _ _ _ h => h
          case hy54 =>
            refine Or.inl ⟨by rfl, ?_⟩
            (intro wq hSw; (try dsimp only at hSw); go_simp; try with_reducible rfl)
          (try simp only [Act.put, List.setIfInBounds_toArray, List.set_cons_zero, List.set_cons_succ])
          refine wpAnyH_take (i := 3) (oi := ?oi55) (v := ?v55) ?hi55 (by kernel_rfl) (by kernel_rfl) (by kernel_rfl) ?hQ55 ?hy55 (by assumption) ?hrest55
          case hi55 => (simp only [List.getElem?_toArray, List.getElem?_cons_succ, List.getElem?_cons_zero]; try rfl)
          case hQ55 => exact fun _ _ _ h => h
          case hy55 =>
            refine Or.inl ⟨by rfl, ?_⟩
            (intro wq hSw; (try dsimp only at hSw); go_simp; try with_reducible rfl)
          (try simp only [Act.put, List.setIfInBounds_toArray, List.set_cons_zero, List.set_cons_succ])
          refine wpAnyH_take (i := 4) (oi := ?oi56) (v := ?v56) ?hi56 (by kernel_rfl) (by kernel_rfl) (by kernel_rfl) ?hQ56 ?hy56 (by assumption) ?hrest56
          case hi56 => (simp only [List.getElem?_toArray, List.getElem?_cons_succ, List.getElem?_cons_zero]; try rfl)
          case hQ56 => exact fun _ _ _ h => h
          case hy56 =>
            refine Or.inl ⟨by rfl, ?_⟩
            (intro wq hSw; (try dsimp only at hSw); go_simp; try with_reducible rfl)
          (try simp only [Act.put, List.setIfInBounds_toArray, List.set_cons_zero, List.set_cons_succ])
          refine wpAnyH_take (i := 5) (oi := ?oi57) (v := ?v57) ?hi57 (by kernel_rfl) (by kernel_rfl) (by kernel_rfl) ?hQ57 ?hy57 (by assumption) ?hrest57
          case hi57 => (simp only [List.getElem?_toArray, List.getElem?_cons_succ, List.getElem?_cons_zero]; try rfl)
          case hQ57 => exact fun _ _ _ h => h
          case hy57 =>
            refine Or.inl ⟨by rfl, ?_⟩
            (intro wq hSw; (try dsimp only at hSw); go_simp; try with_reducible rfl)
          (try simp only [Act.put, List.setIfInBounds_toArray, List.set_cons_zero, List.set_cons_succ])
          refine wpAnyH_take (i := 6) (oi := ?oi58) (v := ?v58) ?hi58 (by kernel_rfl) (by kernel_rfl) (by kernel_rfl) ?hQ58 ?hy58 (by assumption) ?hrest58
          case hi58 => (simp only [List.getElem?_toArray, List.getElem?_cons_succ, List.getElem?_cons_zero]; try rfl)
          case hQ58 => exact fun _ _ _ h => h
          case hy58 =>
            refine Or.inl ⟨by rfl, ?_⟩
            (intro wq hSw; (try dsimp only at hSw); go_simp; try with_reducible rfl)
          (try simp only [Act.put, List.setIfInBounds_toArray, List.set_cons_zero, List.set_cons_succ])
          refine wpAnyH_take (i := 7) (oi := ?oi59) (v := ?v59) ?hi59 (by kernel_rfl) (by kernel_rfl) (by kernel_rfl) ?hQ59 ?hy59 (by assumption) ?hrest59
          case hi59 => (simp only [List.getElem?_toArray, List.getElem?_cons_succ, List.getElem?_cons_zero]; try rfl)
          case hQ59 => exact fun _ _ _ h => h
          case hy59 =>
            refine Or.inl ⟨by rfl, ?_⟩
            (intro wq hSw; (try dsimp only at hSw); go_simp; try with_reducible rfl)
          (try simp only [Act.put, List.setIfInBounds_toArray, List.set_cons_zero, List.set_cons_succ])
          refine wpAnyH_take (i := 8) (oi := ?oi60) (v := ?v60) ?hi60 (by kernel_rfl) (by kernel_rfl) (by kernel_rfl) ?hQ60 ?hy60 (by assumption) ?hrest60
          case hi60 => (simp only [List.getElem?_toArray, List.getElem?_cons_succ, List.getElem?_cons_zero]; try rfl)
          case hQ60 => exact fun _ _ _ h => h
          case hy60 =>
            refine Or.inl ⟨by rfl, ?_⟩
            (intro wq hSw; (try dsimp only at hSw); go_simp; try with_reducible rfl)
          (try simp only [Act.put, List.setIfInBounds_toArray, List.set_cons_zero, List.set_cons_succ])
          refine wpAnyH_take (i := 9) (oi := ?oi61) (v := ?v61) ?hi61 (by kernel_rfl) (by kernel_rfl) (by kernel_rfl) ?hQ61 ?hy61 (by assumption) ?hrest61
          case hi61 => (simp only [List.getElem?_toArray, List.getElem?_cons_succ, List.getElem?_cons_zero]; try rfl)
          case hQ61 => exact fun _ _ _ h => h
          case hy61 =>
            refine Or.inl ⟨by rfl, ?_⟩
            (intro wq hSw; (try dsimp only at hSw); go_simp; try with_reducible rfl)
          (try simp only [Act.put, List.setIfInBounds_toArray, List.set_cons_zero, List.set_cons_succ])
          refine wpAnyH_take (i := 10) (oi := ?oi62) (v := ?v62) ?hi62 (by kernel_rfl) (by kernel_rfl) (by kernel_rfl) ?hQ62 ?hy62 (by assumption) ?hrest62
          case hi62 => (simp only [List.getElem?_toArray, List.getElem?_cons_succ, List.getElem?_cons_zero]; try rfl)
          case hQ62 => exact fun _ _ _ h => h
          case hy62 =>
            refine Or.inl ⟨by rfl, ?_⟩
            (intro wq hSw; (try dsimp only at hSw); go_simp; try with_reducible rfl)
          (try simp only [Act.put, List.setIfInBounds_toArray, List.set_cons_zero, List.set_cons_succ])
          refine wpAnyH_take (i := 11) (oi := ?oi63) (v := ?v63) ?hi63 (by kernel_rfl) (by kernel_rfl) (by kernel_rfl) ?hQ63 ?hy63 (by assumption) ?hrest63
          case hi63 => (simp only [List.getElem?_toArray, List.getElem?_cons_succ, List.getElem?_cons_zero]; try rfl)
          case hQ63 => exact fun _ _ _ h => h
          case hy63 =>
            refine Or.inl ⟨by rfl, ?_⟩
            (intro wq hSw; (try dsimp only at hSw); go_simp; try with_reducible rfl)
          (try simp only [Act.put, List.setIfInBounds_toArray, List.set_cons_zero, List.set_cons_succ])
          refine wpAnyH_take (i := 12) (oi := ?oi64) (v := ?v64) ?hi64 (by kernel_rfl) (by kernel_rfl) (by kernel_rfl) ?hQ64 ?hy64 (by assumption) ?hrest64
          case hi64 => (simp only [List.getElem?_toArray, List.getElem?_cons_succ, List.getElem?_cons_zero]; try rfl)
          case hQ64 => exact fun _ _ _ h => h
          case hy64 =>
            refine Or.inl ⟨by rfl, ?_⟩
            (intro wq hSw; (try dsimp only at hSw); go_simp; try with_reducible rfl)
          (try simp only [Act.put, List.setIfInBounds_toArray, List.set_cons_zero, List.set_cons_succ])
          refine wpAnyH_take (i := 13) (oi := ?oi65) (v := ?v65) ?hi65 (by kernel_rfl) (by kernel_rfl) (by kernel_rfl) ?hQ65 ?hy65 (by assumption) ?hrest65
          case hi65 => (simp only [List.getElem?_toArray, List.getElem?_cons_succ, List.getElem?_cons_zero]; try rfl)
          case hQ65 => exact fun _ _ _ h => h
          case hy65 =>
            refine Or.inl ⟨by rfl, ?_⟩
            (intro wq hSw; (try dsimp only at hSw); go_simp; try with_reducible rfl)
          (try simp only [Act.put, List.setIfInBounds_toArray, List.set_cons_zero, List.set_cons_succ])
          refine wpAnyH_done (by kernel_rfl) ?_ _
          refine NoPanic.normal ?_
          (skip)
          clear hHeld k0 k1
          have RZ := Rd5.out.r1
          have RV := Rd5.out.r2
          have RZ2 := hid (RZ.setCells (us := [.int .i64 n.1, .int .i64 n.2.1, .int .i64 n.2.2.1, .int .i64 n.2.2.2.1, .int .i64 n.2.2.2.2.1, .int .i64 n.2.2.2.2.2.1, .int .i64 n.2.2.2.2.2.2.1, .int .i64 n.2.2.2.2.2.2.2.1, .int .i64 n.2.2.2.2.2.2.2.2.1, .int .i64 n.2.2.2.2.2.2.2.2.2, .slice A5 e5.length c5, .bool e6, .int .i64 e7, .slice Av outs.length cv, .slice A9 e9.length c9]) rfl)
          have bZ := hid (below_setCells Rd5.out.below (Nat.le_refl _) [.int .i64 n.1, .int .i64 n.2.1, .int .i64 n.2.2.1, .int .i64 n.2.2.2.1, .int .i64 n.2.2.2.2.1, .int .i64 n.2.2.2.2.2.1, .int .i64 n.2.2.2.2.2.2.1, .int .i64 n.2.2.2.2.2.2.2.1, .int .i64 n.2.2.2.2.2.2.2.2.1, .int .i64 n.2.2.2.2.2.2.2.2.2, .slice A5 e5.length c5, .bool e6, .int .i64 e7, .slice Av outs.length cv, .slice A9 e9.length c9])
          have gF := Gs.setCells (B := fun k => k = w.heap.size) (b := w.heap.size) rfl x5.drew [.int .i64 n.1, .int .i64 n.2.1, .int .i64 n.2.2.1, .int .i64 n.2.2.2.1, .int .i64 n.2.2.2.2.1, .int .i64 n.2.2.2.2.2.1, .int .i64 n.2.2.2.2.2.2.1, .int .i64 n.2.2.2.2.2.2.2.1, .int .i64 n.2.2.2.2.2.2.2.2.1, .int .i64 n.2.2.2.2.2.2.2.2.2, .slice A5 e5.length c5, .bool e6, .int .i64 e7, .slice Av outs.length cv, .slice A9 e9.length c9]
          have hX := Rd5.out.x
          have hX7 := hid (hMA _ ⟨⟨⟨trivial, gF.own hX.1.1.2 (fun k hk e => by omega)⟩, gF.els hX.1.2 hN (fun k hk e => by omega)⟩, gF.own hX.2 (fun k hk e => by omega)⟩)
          clear gF hX
          generalize x5.drew = xd at RZ RV RZ2 bZ hX7 ⊢
          go_wp2_with (first | (refine wpList_load_lit wl.heap.size [.int .i64 n.1, .int .i64 n.2.1, .int .i64 n.2.2.1, .int .i64 n.2.2.2.1, .int .i64 n.2.2.2.2.1, .int .i64 n.2.2.2.2.2.1, .int .i64 n.2.2.2.2.2.2.1, .int .i64 n.2.2.2.2.2.2.2.1, .int .i64 n.2.2.2.2.2.2.2.2.1, .int .i64 n.2.2.2.2.2.2.2.2.2, .slice A5 e5.length c5, .bool e6, .int .i64 e7, .slice Av outs.length cv, .slice A9 e9.length c9] ?_ ?_ Tryd.underlying28 rfl (by kernel_rfl) ?_; (· rfl); (· exact RV)) | (refine wpList_store_lit w.heap.size [.int .i64 n.1, .int .i64 n.2.1, .int .i64 n.2.2.1, .int .i64 n.2.2.2.1, .int .i64 n.2.2.2.2.1, .int .i64 n.2.2.2.2.2.1, .int .i64 n.2.2.2.2.2.2.1, .int .i64 n.2.2.2.2.2.2.2.1, .int .i64 n.2.2.2.2.2.2.2.2.1, .int .i64 n.2.2.2.2.2.2.2.2.2, .slice A5 e5.length c5, .bool e6, .int .i64 e7, .slice Av outs.length cv, .slice A9 e9.length c9] [.int .i64 0, .int .i64 0, .int .i64 0, .int .i64 0, .int .i64 0, .int .i64 0, .int .i64 0, .int .i64 0, .int .i64 0, .int .i64 0, .slice none 0 0, .bool false, .int .i64 0, .slice none 0 0, .slice none 0 0] ?_ ?_ ?_ rfl (by kernel_rfl) rfl ?_; (· rfl); (· rfl); (· exact RZ)))
          refine bodyPost_ret (results_cell2 (k := 2) (k2 := 3) (t := 28) Tryd.results14 rfl rfl RZ2.out Tryd.underlying28 rfl (by kernel_rfl)) rfl ?_
          have h9 := hrd.out
          rw [if_pos trivial, if_pos ⟨hp.out, hrb.out⟩] at h9
          rw [hrs.out, h9]
          exact ⟨o, by rw [hOv.out]; rfl, rfl, hX7.out, bZ.out⟩
end Go.Proofs.YtgkdnhbhmebmeaaDoor
