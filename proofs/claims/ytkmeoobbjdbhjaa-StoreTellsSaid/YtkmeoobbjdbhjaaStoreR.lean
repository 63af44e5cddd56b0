import Derived.Test.YtkmeoobbjdbhjaaStoreR0
import Derived.Test.YtkmeoobbjdbhjaaStoreO
import Derived.Test.YtkmeoobbjdbhjaaWires1
namespace Go.Proofs.Ytkmeoobbjdbhjaa
open Go.RowKit Go.Cov Go.Lib
set_option maxRecDepth 100000 in
set_option maxHeartbeats 1600000 in
theorem rbytes_st {A : Option Addr} {c : Nat} {xs : List Pr} {L : PL} {w : World} (h : St w A c xs L) (hz : xs.length ≤ 2932031007403) :
    Calls Try.prog 20 #[.slice A xs.length c] w fun e w' => ∃ v, e = .returned (.tuple #[v, .int .i64 (bytesP L).2]) ∧ w'.ownsRow w.heap.size 5 1 v (bytesP L).1.length ((bytesP L).1.map byt) ∧ Below w.heap.size w w' := by
  have KR := hid (show Calls Try.prog 24 #[.slice A xs.length c] w fun e w' => e = .returned (.bool (rightP L)) ∧ Below w.heap.size w w' from by rw [← h.2.2]; exact rright_pairs h.1 hz)
  cases hr : rightP L with
  | false =>
    rw [hr] at KR
    rw [show bytesP L = ([], 1) by rw [bytesP, hr]; rfl]
    go_enter Try.func20, Try.ntmps20
    go_wp2_with fail
    refine KR.out.mono ?_
    rintro e w1 ⟨rfl, hb1⟩
    go_wp2_with fail
    go_ret2
    exact ⟨_, rfl, World.ownsRow_nil _ _ _ _, hb1⟩
  | true =>
    rw [hr] at KR
    have hB : bytesP L = putRowR (flat L) := by rw [bytesP, hr]; rfl
    have hlen := (okay_iff.1 hr).len
    have hxl := h.len
    have KP := hid (fun W B d (rs : List SlR) (hrs : rs.map SlR.l = flat L) (g : Els slEl W B rs) => (show Calls Try.prog 35 #[.slice B rs.length d] W fun e w' => ∃ v, e = .returned (.tuple #[v, .int .i64 (bytesP L).2]) ∧ w'.ownsRow W.heap.size 5 1 v (bytesP L).1.length ((bytesP L).1.map byt) ∧ Below W.heap.size W w' from by
      have := rputrow_any (c := d) (slEl_row g) (by rw [hrs, flat_len]; omega)
      rw [List.length_map, hrs, ← hB] at this
      exact this))
    have HX := hid (show xs.length ≤ 256 by omega)
    have HL := hid hxl
    clear hB hlen hxl hr
    go_enter Try.func20, Try.ntmps20
    go_wp2_with fail
    refine KR.out.mono ?_
    rintro e w1 ⟨rfl, hb1⟩
    go_wp2_with fail
    go_loopw [5, 6] (fun v i W => ∃ (k : Nat) (rs : List SlR), k ≤ xs.length ∧ i = .int .i64 k ∧ OwnEls slEl W w.heap.size 23 v rs ∧ rs.map SlR.l = flat (L.take k) ∧ Below w.heap.size w W) (fun _ i _ => xs.length - (RowKit.intOf i).toNat)
    case atStart => exact ⟨0, [], by omega, rfl, OwnEls.nil _ _ _ _, rfl, hb1⟩
    case round =>
      obtain ⟨k, rs, hk, rfl, hown, hrs, hb⟩ := hrel
      have hrl : Hid (rs.length = 2 * k) := hid <| by
        have := congrArg List.length hrs
        rw [List.length_map, flat_len, List.length_take] at this
        have := HL.out
        omega
      by_cases hlt : k < xs.length
      · obtain ⟨ad, rfl, h1, h2, h3, h4⟩ := pr_at (h.below hb).1 k hlt
        have hkL : k < L.length := by have := HL.out; omega
        obtain ⟨y1, y2⟩ := data_at h.2.2 k hlt hkL
        have hst := flat_step hkL
        rw [y1, y2, ← hrs] at hst
        have HST := hid hst
        clear hst y1 y2 hrs
        have hslw := h.1.2 _ (List.getElem_mem hlt)
        obtain ⟨aw, haw, g1w, g2w, _, _⟩ := pr_at h.1 k hlt
        cases haw
        generalize xs[k] = x at h1 h2 h3 h4 HST hslw g1w g2w
        have i1 : (k : Int) < xs.length := by omega
        unfold Pr.key at h1 g1w
        unfold Pr.val at h2 g2w
        have hx24 : xs.length ≤ 256 := HX.out
        have hbase := hb.size
        have h1q := fun W (hW : Below w.heap.size wr W) => cell_on (hb.trans hW) g1w
        have h2q := fun W (hW : Below w.heap.size wr W) => cell_on (hb.trans hW) g2w
        have j63 : (rs.length + 2) * 24 ≤ 140737488355328 ∧ rs.length + 2 ≤ 140737488355328 := by have := hrl.out; omega
        have OFF := hid (fun W (hW : Below w.heap.size w W) (v : Value) (hv : ∀ kk, v.ownBlock = some kk → w.heap.size ≤ kk) => Off.old (T := slEl) (xs := [⟨x.kA, x.kc, x.k⟩, ⟨x.vA, x.vc, x.v⟩]) (v := v) (w := w) (w' := W) (fun a ha p hp => by
          have hs2 : ∀ p ∈ prEl.cons x, Sl w p.1 p.2 := hslw
          rcases List.mem_cons.1 ha with rfl | ha
          · rw [List.mem_singleton.1 hp]; exact hs2 _ (by simp [prEl]; left; rfl)
          · rw [List.mem_singleton.1 ha] at hp; rw [List.mem_singleton.1 hp]; exact hs2 _ (by simp [prEl]; right; rfl)) hW hv)
        clear h1 h2 g1w g2w
        go_upto_region 8 with fail
        refine wp_region_noPanic ?_
        refine wp_region_held_drew (S := (fun W => Below w.heap.size wr W)) (by kernel_rfl) ?_ (fun hHeld => ?_)
        · exact (Below.refl _ _).drew
        refine wpAnyH_take (i := 0) (oi := ?oi1) (v := ?v1) ?hi1 (by kernel_rfl) (by kernel_rfl) (by kernel_rfl) ?hQ1 ?hy1 (by assumption) ?hrest1
        case hi1 => (simp only [List.getElem?_toArray, List.getElem?_cons_zero]; try rfl)
        case hQ1 => exact fun _ _ _ h => h
        case hy1 =>
          refine Or.inl ⟨by rfl, ?_⟩
          (intro wq hSw; (try dsimp only at hSw); go_simp; try with_reducible rfl)
        (try simp only [Act.put, List.setIfInBounds_toArray, List.set_cons_zero, List.set_cons_succ])
        refine wpAnyH_take (i := 1) (oi := ?oi2) (v := ?v2) ?hi2 (by kernel_rfl) (by kernel_rfl) (by kernel_rfl) ?hQ2 ?hy2 (by assumption) ?hrest2
        case hi2 => (simp only [List.getElem?_toArray, List.getElem?_cons_succ, List.getElem?_cons_zero]; try rfl)
        case hQ2 => exact fun _ _ _ h => h
        case hy2 =>
          refine Or.inl ⟨by rfl, ?_⟩
          (intro wq hSw; (try dsimp only at hSw); go_simp; try with_reducible rfl)
        (try simp only [Act.put, List.setIfInBounds_toArray, List.set_cons_zero, List.set_cons_succ])
        refine wpAnyH_take (i := 2) (oi := ?oi3) (v := ?v3) ?hi3 (by kernel_rfl) (by kernel_rfl) (by kernel_rfl) ?hQ3 ?hy3 (by assumption) ?hrest3
        case hi3 => (simp only [List.getElem?_toArray, List.getElem?_cons_succ, List.getElem?_cons_zero]; try rfl)
        case hQ3 => exact fun _ _ _ h => h
        case hy3 =>
          refine Or.inl ⟨by rfl, ?_⟩
          (intro wq hSw; (try dsimp only at hSw); go_simp; try with_reducible rfl)
        (try simp only [Act.put, List.setIfInBounds_toArray, List.set_cons_zero, List.set_cons_succ])
        refine wpAnyH_take (i := 3) (oi := ?oi4) (v := ?v4) ?hi4 (by kernel_rfl) (by kernel_rfl) (by kernel_rfl) ?hQ4 ?hy4 (by assumption) ?hrest4
        case hi4 => (simp only [List.getElem?_toArray, List.getElem?_cons_succ, List.getElem?_cons_zero]; try rfl)
        case hQ4 => exact fun _ _ _ h => h
        case hy4 =>
          refine Or.inl ⟨by rfl, ?_⟩
          (intro wq hSw; (try dsimp only at hSw); go_simp; try with_reducible rfl)
        (try simp only [Act.put, List.setIfInBounds_toArray, List.set_cons_zero, List.set_cons_succ])
        refine wpAnyH_take (i := 4) (oi := ?oi5) (v := ?v5) ?hi5 (by kernel_rfl) (by kernel_rfl) (by kernel_rfl) ?hQ5 ?hy5 (by assumption) ?hrest5
        case hi5 => (simp only [List.getElem?_toArray, List.getElem?_cons_succ, List.getElem?_cons_zero]; try rfl)
        case hQ5 => exact fun _ _ _ h => h
        case hy5 =>
          refine Or.inl ⟨by rfl, ?_⟩
          (intro wq hSw; (try dsimp only at hSw); go_simp; try with_reducible rfl)
        (try simp only [Act.put, List.setIfInBounds_toArray, List.set_cons_zero, List.set_cons_succ])
        refine wpAnyH_take (i := 5) (oi := ?oi6) (v := ?v6) ?hi6 (by kernel_rfl) (by kernel_rfl) (by kernel_rfl) ?hQ6 ?hy6 (by assumption) ?hrest6
        case hi6 => (simp only [List.getElem?_toArray, List.getElem?_cons_succ, List.getElem?_cons_zero]; try rfl)
        case hQ6 => exact fun _ _ _ h => h
        case hy6 =>
          refine Or.inl ⟨by rfl, ?_⟩
          (intro wq hSw; (try dsimp only at hSw); go_simp; try with_reducible rfl)
        (try simp only [Act.put, List.setIfInBounds_toArray, List.set_cons_zero, List.set_cons_succ])
        refine wpAnyH_take (i := 6) (oi := ?oi7) (v := ?v7) ?hi7 (by kernel_rfl) (by kernel_rfl) (by kernel_rfl) ?hQ7 ?hy7 (by assumption) ?hrest7
        case hi7 => (simp only [List.getElem?_toArray, List.getElem?_cons_succ, List.getElem?_cons_zero]; try rfl)
        case hQ7 => exact fun _ _ _ h => h
        case hy7 =>
          refine Or.inl ⟨by rfl, ?_⟩
          (intro wq hSw; (try dsimp only at hSw); go_simp; try with_reducible rfl)
        (try simp only [Act.put, List.setIfInBounds_toArray, List.set_cons_zero, List.set_cons_succ])
        refine wpAnyH_take (i := 7) (oi := ?oi8) (v := ?v8) ?hi8 (by kernel_rfl) (by kernel_rfl) (by kernel_rfl) ?hQ8 ?hy8 (by assumption) ?hrest8
        case hi8 => (simp only [List.getElem?_toArray, List.getElem?_cons_succ, List.getElem?_cons_zero]; try rfl)
        case hQ8 => exact fun _ _ _ h => h
        case hy8 =>
          refine Or.inl ⟨by rfl, ?_⟩
          (intro wq hSw; (try dsimp only at hSw); go_simp; try with_reducible rfl)
        (try simp only [Act.put, List.setIfInBounds_toArray, List.set_cons_zero, List.set_cons_succ])
        refine wpAnyH_take (i := 8) (oi := ?oi9) (v := ?v9) ?hi9 (by kernel_rfl) (by kernel_rfl) (by kernel_rfl) ?hQ9 ?hy9 (by assumption) ?hrest9
        case hi9 => (simp only [List.getElem?_toArray, List.getElem?_cons_succ, List.getElem?_cons_zero]; try rfl)
        case hQ9 => exact fun _ _ _ h => h
        case hy9 =>
          refine Or.inl ⟨by rfl, ?_⟩
          (intro wq hSw; (try dsimp only at hSw); go_simp; try with_reducible rfl)
        (try simp only [Act.put, List.setIfInBounds_toArray, List.set_cons_zero, List.set_cons_succ])
        refine wpAnyH_take (i := 9) (oi := ?oi10) (v := ?v10) ?hi10 (by kernel_rfl) (by kernel_rfl) (by kernel_rfl) ?hQ10 ?hy10 (by assumption) ?hrest10
        case hi10 => (simp only [List.getElem?_toArray, List.getElem?_cons_succ, List.getElem?_cons_zero]; try rfl)
        case hQ10 => exact fun _ _ _ h => h
        case hy10 =>
          refine Or.inl ⟨by rfl, ?_⟩
          (intro wq hSw; (try dsimp only at hSw); go_simp; try with_reducible rfl)
        (try simp only [Act.put, List.setIfInBounds_toArray, List.set_cons_zero, List.set_cons_succ])
        refine wpAnyH_take (i := 10) (oi := ?oi11) (v := ?v11) ?hi11 (by kernel_rfl) (by kernel_rfl) (by kernel_rfl) ?hQ11 ?hy11 (by assumption) ?hrest11
        case hi11 => (simp only [List.getElem?_toArray, List.getElem?_cons_succ, List.getElem?_cons_zero]; try rfl)
        case hQ11 => exact fun _ _ _ h => h
        case hy11 =>
          refine Or.inl ⟨by rfl, ?_⟩
          (intro wq hSw; (try dsimp only at hSw); go_simp; try with_reducible rfl)
        (try simp only [Act.put, List.setIfInBounds_toArray, List.set_cons_zero, List.set_cons_succ])
        refine wpAnyH_ready (rs := [11]) (by kernel_rfl) (by simp) ?_
        refine AllReadyH.cons (o := ?oi12) ?hi12 (fun K hK => ?hstep12) AllReadyH.nil
        case hi12 => (simp only [List.getElem?_toArray, List.getElem?_cons_succ, List.getElem?_cons_zero]; try rfl)
        go_simp
        ((first | refine newvar_Kd ?_ | refine newvar_K ?_); intro wz hbx nv nf nz; have n0 := nv 0 _ rfl; have n1 := nv 1 _ rfl; have bz := below_step (Below.refl wr.heap.size wr).drew hbx; have own2 := hown.below bz; have hbz := hb.trans (bz.mono hbase); have hsz := hbz.size)
        refine hK.out _ _ ?_ (fun hHeld => ?_)
        · exact hHeld.trans (hbx.mono (by have := hHeld.size; omega))
        clear hK K
        (try simp only [Act.put, List.setIfInBounds_toArray, List.set_cons_zero, List.set_cons_succ])
        refine wpAnyH_ready (rs := [12]) (by kernel_rfl) (by simp) ?_
        refine AllReadyH.cons (o := ?oi13) ?hi13 (fun K hK => ?hstep13) AllReadyH.nil
        case hi13 => (simp only [List.getElem?_toArray, List.getElem?_cons_succ, List.getElem?_cons_zero]; try rfl)
        (refine oper_app2 rfl (.tmp 17) (.tmp 28) 50 rfl w.heap.size 23 Try.underlying50 infoR rfl (by decide) u5 rs.length (rs.flatMap slEl.cells) rfl own2.1 (some ⟨wr.drew.heap.size, 0, none⟩) 2 2 [.slice x.kA x.k.length x.kc, .slice x.vA x.v.length x.vc] rfl rfl (rd2 n0 n1) (by intro u hu; simp at hu; rcases hu with rfl | rfl <;> rfl) j63.1 j63.2 hsz ?_; intro v5 w5 own5 hg5 hat5; have hnew := OwnEls.app (ys := [⟨x.kA, x.kc, x.k⟩, ⟨x.vA, x.vc, x.v⟩]) own2.2 (OFF.out _ hbz _ (fun kk hkk => (own2.lt hkk).1)) own5 hg5 hat5; have hb5 := hbz.grown hg5 hsz (fun kk hkk => (own2.lt hkk).1))
        refine hK.out _ _ ?_ (fun hHeld => ?_)
        · exact hHeld.grown hg5 hsz (fun kk hkk => (own2.lt hkk).1)
        clear hK K
        (try simp only [Act.put, List.setIfInBounds_toArray, List.set_cons_zero, List.set_cons_succ])
        refine wpAnyH_take (i := 13) (oi := ?oi14) (v := ?v14) ?hi14 (by kernel_rfl) (by kernel_rfl) (by kernel_rfl) ?hQ14 ?hy14 (by assumption) ?hrest14
        case hi14 => (simp only [List.getElem?_toArray, List.getElem?_cons_succ, List.getElem?_cons_zero]; try rfl)
        case hQ14 => exact fun _ _ _ h => h
        case hy14 =>
          refine Or.inl ⟨by rfl, ?_⟩
          (intro wq hSw; (try dsimp only at hSw); go_simp; try with_reducible rfl)
        (try simp only [Act.put, List.setIfInBounds_toArray, List.set_cons_zero, List.set_cons_succ])
        refine wpAnyH_done (by kernel_rfl) ?_ _
        refine NoPanic.normal ?_
        go_wp2_with fail
        go_roundw
        case rel =>
          refine ⟨k + 1, _, by omega, by go_num, hnew, ?_, hb5⟩
          rw [List.map_append, HST.out]
          rfl
        case measure => simp [RowKit.intOf]; omega
      · obtain rfl : k = xs.length := by omega
        rw [List.take_of_length_le (by have := HL.out; omega)] at hrs
        obtain ⟨C, q, rfl, _, _, hE⟩ := hown.rd
        have HE := hid (KP.out _ C q rs hrs hE)
        clear hrs
        go_wp2_with fail
        refine HE.out.mono ?_
        rintro e w3 ⟨v3, rfl, hown3, hb3⟩
        go_wp2_with fail
        go_ret2
        exact ⟨_, rfl, own_mono hown3 hb.size, below_step hb hb3⟩
end Go.Proofs.Ytkmeoobbjdbhjaa
