import Derived.Test.YtkmeoobbjdbhjaaStoreN
namespace Go.Proofs.Ytkmeoobbjdbhjaa
open Go.RowKit Go.Cov Go.Lib
theorem flat_unflat : ∀ (ls : List (List UInt8)), ls.length = 2 * (unflat ls).length → flat (unflat ls) = ls
  | [], _ => rfl
  | [x], h => by simp [unflat] at h
  | x :: y :: r, h => by
    rw [unflat, flat, flat_unflat r (by rw [unflat] at h; simp at h; omega)]
theorem unflat_flat : ∀ (L : PL), unflat (flat L) = L
  | [] => rfl
  | a :: L => by rw [flat, unflat, unflat_flat L]
theorem rw_len (L : PL) : (rw' (flat L)).length = 4 + sizeP L := by
  have : ∀ L : PL, ((flat L).flatMap tx).length = sizeP L := fun L => by
    induction L with
    | nil => rfl
    | cons a L ih => rw [flat, List.flatMap_cons, List.flatMap_cons, List.length_append, List.length_append, ih, tx_length, tx_length, size_cons]; omega
  rw [rw', List.length_append, be_length, this]
theorem read_back {L : PL} (h : rightP L = true) : readP (rw' (flat L)) = (L, 0) := by
  have hk := okay_iff.1 h
  have hl := hk.len
  have := row_back [] [] (flat L) (by rw [flat_len]; omega) (flat_fits hk.2.1)
  rw [List.nil_append, List.append_nil] at this
  have e : rowR (rw' (flat L)) 0 = (flat L, ((rw' (flat L)).length : Int), 0) := by
    have h2 : ((([] : List UInt8).length : Nat) : Int) = 0 := rfl
    rw [h2, Int.zero_add] at this
    exact this
  unfold readP
  rw [e]
  dsimp only
  rw [if_neg (by simp), unflat_flat, if_pos ⟨rfl, flat_len L, h⟩]
theorem read_split (b : List UInt8) : (∃ e, readP b = ([], e) ∧ (e != 0) = true) ∨ ∃ N, readP b = (N, 0) ∧ rightP N = true ∧ rw' (flat N) = b := by
  unfold readP
  by_cases he : (rowR b 0).2.2 ≠ 0
  · rw [if_pos he]; exact .inl ⟨_, rfl, by simpa using he⟩
  · rw [if_neg he]
    by_cases hc : (rowR b 0).2.1 = b.length ∧ (rowR b 0).1.length = 2 * (unflat (rowR b 0).1).length ∧ rightP (unflat (rowR b 0).1) = true
    · rw [if_pos hc]
      refine .inr ⟨_, rfl, hc.2.2, ?_⟩
      rw [flat_unflat _ hc.2.1]
      have e : rowR b ((0 : Nat) : Int) = ((rowR b 0).1, (b.length : Int), 0) := by
        have h3 : (rowR b 0).2.2 = 0 := by simpa using he
        rw [← hc.1]
        exact Prod.ext rfl (Prod.ext rfl h3)
      obtain ⟨_, _, h1, h2, h3⟩ := row_kept e
      have h4 : (rw' (rowR b 0).1).length = b.length := by omega
      rw [Nat.zero_add, h4, List.drop_length, List.append_nil, List.drop_zero] at h3
      exact h3.symm
    · rw [if_neg hc]; exact .inl ⟨_, rfl, rfl⟩
theorem rw_inj {L M : PL} (h : rightP L = true) (g : rightP M = true) : rw' (flat L) = rw' (flat M) ↔ L = M := by
  constructor
  · intro e
    have h1 := read_back h
    rw [e, read_back g] at h1
    exact (congrArg Prod.fst h1).symm
  · intro e; rw [e]
set_option maxRecDepth 100000 in
set_option maxHeartbeats 1600000 in
theorem great_st {A : Option Addr} {c : Nat} {xs : List Pr} {L : PL} {w : World} (h : St w A c xs L) (hz : xs.length ≤ 2932031007403) :
    Calls Try.prog 15 #[.slice A xs.length c] w fun e w' => (e = .returned (.bool true) ∨ e = .returned (.bool false) ∧ xs.length ≤ 10000 ∧ sumP L ≤ 100000) ∧ Below w.heap.size w w' := by
  have HL := hid h.len
  go_enter Try.func15, Try.ntmps15
  go_wp2_with fail
  go_loopw [3, 4] (fun n i W => ∃ (k s : Nat), k ≤ xs.length ∧ i = .int .i64 k ∧ n = .int .i64 s ∧ s ≤ 300009 ∧ Hid (s < 100000 → 10 * k + sumP (L.take k) = s) ∧ Below w.heap.size w W) (fun _ i _ => xs.length - (RowKit.intOf i).toNat)
  case atStart => exact ⟨0, 0, by omega, rfl, rfl, by omega, hid (fun _ => by simp [sumP]), Below.refl _ _⟩
  case round =>
    obtain ⟨k, s, hk, rfl, rfl, hs3, HS, hb⟩ := hrel
    by_cases hs : s < 100000
    · have hsi : (s : Int) < 100000 := by omega
      by_cases hlt : k < xs.length
      · obtain ⟨ad, rfl, h1, h2, _, _⟩ := pr_at (h.below hb).1 k hlt
        have i1 : (k : Int) < xs.length := by omega
        have hkL : k < L.length := by have := HL.out; omega
        obtain ⟨y1, y2⟩ := data_at h.2.2 k hlt hkL
        have hst := sumP_step hkL
        rw [y1, y2] at hst
        have HST := hid hst
        clear hst y1 y2 hkL
        generalize xs[k] = x at h1 h2 HST
        unfold Pr.key at h1
        unfold Pr.val at h2
        have h1q := fun W (hW : Below wr.heap.size wr W) => cell_on hW h1
        have h2q := fun W (hW : Below wr.heap.size wr W) => cell_on hW h2
        obtain ⟨p, hp, hp2⟩ : ∃ p : Nat, min (x.k.length : Int) 100000 = (p : Int) ∧ p ≤ 100000 ∧ (p < 100000 → p = x.k.length) := ⟨min x.k.length 100000, by omega, by omega, by omega⟩
        obtain ⟨q, hq, hq2⟩ : ∃ q : Nat, min (x.v.length : Int) 100000 = (q : Int) ∧ q ≤ 100000 ∧ (q < 100000 → q = x.v.length) := ⟨min x.v.length 100000, by omega, by omega, by omega⟩
        have e1 : IntKind.i64.wrap ((s : Int) + 10) = (s : Int) + 10 := wrap_of _ (by omega) (by omega)
        have e2 : IntKind.i64.wrap ((s : Int) + 10 + (p : Int)) = (s : Int) + 10 + (p : Int) := wrap_of _ (by omega) (by omega)
        have e3 : IntKind.i64.wrap ((s : Int) + 10 + (p : Int) + (q : Int)) = ((s + 10 + p + q : Nat) : Int) := (wrap_of _ (by omega) (by omega)).trans (by omega)
        have HP := hid hp2
        have HQ := hid hq2
        have HS2 := hid hs3
        have Hs := hid hs
        clear hp2 hq2 hs3 hs
        go_upto_region 5 with fail
        refine wp_region_noPanic ?_
        refine wp_region_held_drew (S := (fun W => Below wr.heap.size wr W)) (by kernel_rfl) ?_ (fun hHeld => ?_)
        · exact (Below.refl _ _).drew
        refine wpAnyH_take (i := 0) (oi := ?oi1) (v := ?v1) ?hi1 (by kernel_rfl) (by kernel_rfl) (by kernel_rfl) ?hQ1 ?hy1 (by assumption) ?hrest1
        case hi1 => (simp only [List.getElem?_toArray, List.getElem?_cons_zero]; try rfl)
        case hQ1 => exact fun _ _ _ h => h
        case hy1 =>
          refine Or.inl ⟨by rfl, ?_⟩
          (intro wq hSw; (try dsimp only at hSw); go_simp; try with_reducible rfl)
        (try simp only [Act.put, List.setIfInBounds_toArray, List.set_cons_zero, List.set_cons_succ])
        refine wpAnyH_take (i := 1) (oi := ?oi2) (v := ?v2) ?hi2 (by kernel_rfl) (by kernel_rfl) (by kernel_rfl) ?hQ2 ?hy2 (by assumption) ?hrest2
        case hi2 => (simp only [List.getElem?_toArray, List.getElem?_cons_succ, List.getElem?_cons_zero]; try rfl)
        case hQ2 => exact fun _ _ _ h => h
        case hy2 =>
          refine Or.inl ⟨by rfl, ?_⟩
          (intro wq hSw; (try dsimp only at hSw); go_simp; try with_reducible rfl)
        (try simp only [Act.put, List.setIfInBounds_toArray, List.set_cons_zero, List.set_cons_succ])
        refine wpAnyH_take (i := 2) (oi := ?oi3) (v := ?v3) ?hi3 (by kernel_rfl) (by kernel_rfl) (by kernel_rfl) ?hQ3 ?hy3 (by assumption) ?hrest3
        case hi3 => (simp only [List.getElem?_toArray, List.getElem?_cons_succ, List.getElem?_cons_zero]; try rfl)
        case hQ3 => exact fun _ _ _ h => h
        case hy3 =>
          refine Or.inl ⟨by rfl, ?_⟩
          (intro wq hSw; (try dsimp only at hSw); go_simp; try with_reducible rfl)
        (try simp only [Act.put, List.setIfInBounds_toArray, List.set_cons_zero, List.set_cons_succ])
        refine wpAnyH_take (i := 3) (oi := ?oi4) (v := ?v4) ?hi4 (by kernel_rfl) (by kernel_rfl) (by kernel_rfl) ?hQ4 ?hy4 (by assumption) ?hrest4
        case hi4 => (simp only [List.getElem?_toArray, List.getElem?_cons_succ, List.getElem?_cons_zero]; try rfl)
        case hQ4 => exact fun _ _ _ h => h
        case hy4 =>
          refine Or.inl ⟨by rfl, ?_⟩
          (intro wq hSw; (try dsimp only at hSw); go_simp; try with_reducible rfl)
        (try simp only [Act.put, List.setIfInBounds_toArray, List.set_cons_zero, List.set_cons_succ])
        refine wpAnyH_take (i := 4) (oi := ?oi5) (v := ?v5) ?hi5 (by kernel_rfl) (by kernel_rfl) (by kernel_rfl) ?hQ5 ?hy5 (by assumption) ?hrest5
        case hi5 => (simp only [List.getElem?_toArray, List.getElem?_cons_succ, List.getElem?_cons_zero]; try rfl)
        case hQ5 => exact fun _ _ _ h => h
        case hy5 =>
          refine Or.inl ⟨by rfl, ?_⟩
          (intro wq hSw; (try dsimp only at hSw); go_simp; try with_reducible rfl)
        (try simp only [Act.put, List.setIfInBounds_toArray, List.set_cons_zero, List.set_cons_succ])
        refine wpAnyH_take (i := 5) (oi := ?oi6) (v := ?v6) ?hi6 (by kernel_rfl) (by kernel_rfl) (by kernel_rfl) ?hQ6 ?hy6 (by assumption) ?hrest6
        case hi6 => (simp only [List.getElem?_toArray, List.getElem?_cons_succ, List.getElem?_cons_zero]; try rfl)
        case hQ6 => exact fun _ _ _ h => h
        case hy6 =>
          refine Or.inl ⟨by rfl, ?_⟩
          (intro wq hSw; (try dsimp only at hSw); go_simp; try with_reducible rfl)
        (try simp only [Act.put, List.setIfInBounds_toArray, List.set_cons_zero, List.set_cons_succ])
        refine wpAnyH_take (i := 6) (oi := ?oi7) (v := ?v7) ?hi7 (by kernel_rfl) (by kernel_rfl) (by kernel_rfl) ?hQ7 ?hy7 (by assumption) ?hrest7
        case hi7 => (simp only [List.getElem?_toArray, List.getElem?_cons_succ, List.getElem?_cons_zero]; try rfl)
        case hQ7 => exact fun _ _ _ h => h
        case hy7 =>
          refine Or.inl ⟨by rfl, ?_⟩
          (intro wq hSw; (try dsimp only at hSw); go_simp; try with_reducible rfl)
        (try simp only [Act.put, List.setIfInBounds_toArray, List.set_cons_zero, List.set_cons_succ])
        refine wpAnyH_take (i := 7) (oi := ?oi8) (v := ?v8) ?hi8 (by kernel_rfl) (by kernel_rfl) (by kernel_rfl) ?hQ8 ?hy8 (by assumption) ?hrest8
        case hi8 => (simp only [List.getElem?_toArray, List.getElem?_cons_succ, List.getElem?_cons_zero]; try rfl)
        case hQ8 => exact fun _ _ _ h => h
        case hy8 =>
          refine Or.inl ⟨by rfl, ?_⟩
          (intro wq hSw; (try dsimp only at hSw); go_simp; try with_reducible rfl)
        (try simp only [Act.put, List.setIfInBounds_toArray, List.set_cons_zero, List.set_cons_succ])
        refine wpAnyH_take (i := 8) (oi := ?oi9) (v := ?v9) ?hi9 (by kernel_rfl) (by kernel_rfl) (by kernel_rfl) ?hQ9 ?hy9 (by assumption) ?hrest9
        case hi9 => (simp only [List.getElem?_toArray, List.getElem?_cons_succ, List.getElem?_cons_zero]; try rfl)
        case hQ9 => exact fun _ _ _ h => h
        case hy9 =>
          refine Or.inl ⟨by rfl, ?_⟩
          (intro wq hSw; (try dsimp only at hSw); go_simp; try with_reducible rfl)
        (try simp only [Act.put, List.setIfInBounds_toArray, List.set_cons_zero, List.set_cons_succ])
        refine wpAnyH_take (i := 9) (oi := ?oi10) (v := ?v10) ?hi10 (by kernel_rfl) (by kernel_rfl) (by kernel_rfl) ?hQ10 ?hy10 (by assumption) ?hrest10
        case hi10 => (simp only [List.getElem?_toArray, List.getElem?_cons_succ, List.getElem?_cons_zero]; try rfl)
        case hQ10 => exact fun _ _ _ h => h
        case hy10 =>
          refine Or.inl ⟨by rfl, ?_⟩
          (intro wq hSw; (try dsimp only at hSw); go_simp; try with_reducible rfl)
        (try simp only [Act.put, List.setIfInBounds_toArray, List.set_cons_zero, List.set_cons_succ])
        refine wpAnyH_take (i := 10) (oi := ?oi11) (v := ?v11) ?hi11 (by kernel_rfl) (by kernel_rfl) (by kernel_rfl) ?hQ11 ?hy11 (by assumption) ?hrest11
        case hi11 => (simp only [List.getElem?_toArray, List.getElem?_cons_succ, List.getElem?_cons_zero]; try rfl)
        case hQ11 => exact fun _ _ _ h => h
        case hy11 =>
          refine Or.inl ⟨by rfl, ?_⟩
          (intro wq hSw; (try dsimp only at hSw); go_simp; try with_reducible rfl)
        (try simp only [Act.put, List.setIfInBounds_toArray, List.set_cons_zero, List.set_cons_succ])
        refine wpAnyH_take (i := 11) (oi := ?oi12) (v := ?v12) ?hi12 (by kernel_rfl) (by kernel_rfl) (by kernel_rfl) ?hQ12 ?hy12 (by assumption) ?hrest12
        case hi12 => (simp only [List.getElem?_toArray, List.getElem?_cons_succ, List.getElem?_cons_zero]; try rfl)
        case hQ12 => exact fun _ _ _ h => h
        case hy12 =>
          refine Or.inl ⟨by rfl, ?_⟩
          (intro wq hSw; (try dsimp only at hSw); go_simp; try with_reducible rfl)
        (try simp only [Act.put, List.setIfInBounds_toArray, List.set_cons_zero, List.set_cons_succ])
        refine wpAnyH_take (i := 12) (oi := ?oi13) (v := ?v13) ?hi13 (by kernel_rfl) (by kernel_rfl) (by kernel_rfl) ?hQ13 ?hy13 (by assumption) ?hrest13
        case hi13 => (simp only [List.getElem?_toArray, List.getElem?_cons_succ, List.getElem?_cons_zero]; try rfl)
        case hQ13 => exact fun _ _ _ h => h
        case hy13 =>
          refine Or.inl ⟨by rfl, ?_⟩
          (intro wq hSw; (try dsimp only at hSw); go_simp; try with_reducible rfl)
        (try simp only [Act.put, List.setIfInBounds_toArray, List.set_cons_zero, List.set_cons_succ])
        refine wpAnyH_take (i := 13) (oi := ?oi14) (v := ?v14) ?hi14 (by kernel_rfl) (by kernel_rfl) (by kernel_rfl) ?hQ14 ?hy14 (by assumption) ?hrest14
        case hi14 => (simp only [List.getElem?_toArray, List.getElem?_cons_succ, List.getElem?_cons_zero]; try rfl)
        case hQ14 => exact fun _ _ _ h => h
        case hy14 =>
          refine Or.inl ⟨by rfl, ?_⟩
          (intro wq hSw; (try dsimp only at hSw); go_simp; try with_reducible rfl)
        (try simp only [Act.put, List.setIfInBounds_toArray, List.set_cons_zero, List.set_cons_succ])
        refine wpAnyH_take (i := 14) (oi := ?oi15) (v := ?v15) ?hi15 (by kernel_rfl) (by kernel_rfl) (by kernel_rfl) ?hQ15 ?hy15 (by assumption) ?hrest15
        case hi15 => (simp only [List.getElem?_toArray, List.getElem?_cons_succ, List.getElem?_cons_zero]; try rfl)
        case hQ15 => exact fun _ _ _ h => h
        case hy15 =>
          refine Or.inl ⟨by rfl, ?_⟩
          (intro wq hSw; (try dsimp only at hSw); go_simp; try with_reducible rfl)
        (try simp only [Act.put, List.setIfInBounds_toArray, List.set_cons_zero, List.set_cons_succ])
        refine wpAnyH_take (i := 15) (oi := ?oi16) (v := ?v16) ?hi16 (by kernel_rfl) (by kernel_rfl) (by kernel_rfl) ?hQ16 ?hy16 (by assumption) ?hrest16
        case hi16 => (simp only [List.getElem?_toArray, List.getElem?_cons_succ, List.getElem?_cons_zero]; try rfl)
        case hQ16 => exact fun _ _ _ h => h
        case hy16 =>
          refine Or.inl ⟨by rfl, ?_⟩
          (intro wq hSw; (try dsimp only at hSw); go_simp; try with_reducible rfl)
        (try simp only [Act.put, List.setIfInBounds_toArray, List.set_cons_zero, List.set_cons_succ])
        refine wpAnyH_take (i := 16) (oi := ?oi17) (v := ?v17) ?hi17 (by kernel_rfl) (by kernel_rfl) (by kernel_rfl) ?hQ17 ?hy17 (by assumption) ?hrest17
        case hi17 => (simp only [List.getElem?_toArray, List.getElem?_cons_succ, List.getElem?_cons_zero]; try rfl)
        case hQ17 => exact fun _ _ _ h => h
        case hy17 =>
          refine Or.inl ⟨by rfl, ?_⟩
          (intro wq hSw; (try dsimp only at hSw); go_simp; try with_reducible rfl)
        (try simp only [Act.put, List.setIfInBounds_toArray, List.set_cons_zero, List.set_cons_succ])
        refine wpAnyH_take (i := 17) (oi := ?oi18) (v := ?v18) ?hi18 (by kernel_rfl) (by kernel_rfl) (by kernel_rfl) ?hQ18 ?hy18 (by assumption) ?hrest18
        case hi18 => (simp only [List.getElem?_toArray, List.getElem?_cons_succ, List.getElem?_cons_zero]; try rfl)
        case hQ18 => exact fun _ _ _ h => h
        case hy18 =>
          refine Or.inl ⟨by rfl, ?_⟩
          (intro wq hSw; (try dsimp only at hSw); go_simp; try with_reducible rfl)
        (try simp only [Act.put, List.setIfInBounds_toArray, List.set_cons_zero, List.set_cons_succ])
        refine wpAnyH_take (i := 18) (oi := ?oi19) (v := ?v19) ?hi19 (by kernel_rfl) (by kernel_rfl) (by kernel_rfl) ?hQ19 ?hy19 (by assumption) ?hrest19
        case hi19 => (simp only [List.getElem?_toArray, List.getElem?_cons_succ, List.getElem?_cons_zero]; try rfl)
        case hQ19 => exact fun _ _ _ h => h
        case hy19 =>
          refine Or.inl ⟨by rfl, ?_⟩
          (intro wq hSw; (try dsimp only at hSw); go_simp; try with_reducible rfl)
        (try simp only [Act.put, List.setIfInBounds_toArray, List.set_cons_zero, List.set_cons_succ])
        refine wpAnyH_done (by kernel_rfl) ?_ _
        refine NoPanic.normal ?_
        go_wp2_with fail
        go_roundw
        case rel =>
          refine ⟨k + 1, s + 10 + p + q, by omega, by go_num, rfl, by have := HP.out.1; have := HQ.out.1; have := Hs.out; omega, hid (fun hh => ?_), hb.drew⟩
          have a1 := HP.out.2 (by omega)
          have a2 := HQ.out.2 (by omega)
          have a3 := HS.out (by omega)
          have a4 := HST.out
          omega
        case measure => simp [RowKit.intOf]; omega
      · obtain rfl : k = xs.length := by omega
        have hg : ¬ (100000 : Int) ≤ s := by omega
        go_wp2_with fail
        go_ret
        refine ⟨.inr ⟨rfl, ?_⟩, hb⟩
        have a3 := HS.out hs
        rw [List.take_of_length_le (by have := HL.out; omega)] at a3
        omega
    · have hsi : ¬ (s : Int) < 100000 := by omega
      have hg : (100000 : Int) ≤ s := by omega
      by_cases hlt : k < xs.length
      · have i1 : (k : Int) < xs.length := by omega
        go_wp2_with fail
        go_ret
        exact ⟨.inl rfl, hb⟩
      · have i1 : ¬ (k : Int) < xs.length := by omega
        go_wp2_with fail
        go_ret
        exact ⟨.inl rfl, hb⟩
end Go.Proofs.Ytkmeoobbjdbhjaa
