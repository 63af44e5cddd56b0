import Derived.Test.YtbfjhclibbonjaaLogJ
namespace Go.Proofs.Ytbfjhclibbonjaa
open Go.RowKit Go.Cov
set_option maxRecDepth 100000 in
set_option maxHeartbeats 1000000 in
theorem ratt_any {s : Int} {A : Option Addr} {c : Nat} {xs : List En} {L : EL} {w : World} (h : Lg w A c xs L) (n : Int) :
    Calls Try.prog 16 #[.agg #[.int .i64 s, .slice A xs.length c], .int .i64 n] w fun e w' => ∃ x : En, e = .returned (.tuple #[x.agg, .bool (atE s L n).isSome]) ∧ x.data = (atE s L n).getD (0, 0, []) ∧ Sl w' x.val x.op ∧ Below w.heap.size w w' := by
  have hb1 := below_alloc w (.cells #[.int .i64 s, .slice A xs.length c] 26)
  have hb2 := below_step hb1 (below_alloc (w.alloc (.cells #[.int .i64 s, .slice A xs.length c] 26)) (.cells #[.int .i64 0, .int .i64 0, .slice none 0 0] 32))
  have K := hid (within_any (s := s) (h.below hb2) n)
  have V := hid (Var3.new (w.alloc (.cells #[.int .i64 s, .slice A xs.length c] 26)) (.int .i64 0) (.int .i64 0) (.slice none 0 0) 32)
  have U := hid ((Var2.new w (.int .i64 s) (.slice A xs.length c) 26).on (below_alloc _ (.cells #[.int .i64 0, .int .i64 0, .slice none 0 0] 32)))
  have hws : w.heap.size ≤ w.heap.size + 1 := by omega
  rcases atL_cases s L n with ha | ⟨i, ha, hn, hi, hr⟩
  · rw [atE_none ha]
    rw [ha] at K
    clear ha
    go_enter Try.func16, Try.ntmps16
    go_wp2_with fail
    refine K.out.mono ?_
    rintro e w2 ⟨rfl, hb3⟩
    obtain ⟨v0, v1, v2, f0, f1, f2, hz⟩ := V.out.on hb3
    rw [size_run] at v0 v1 v2 f0 f1 f2 hz
    obtain ⟨z0, z1, z2⟩ := set3_cells v0 v1 v2 (.int .i64 0) (.int .i64 0) (.slice none 0 0)
    go_wp2_with fail
    refine bodyPost_ret (v := .tuple #[.agg #[.int .i64 0, .int .i64 0, .slice none 0 0], .bool false]) (by simp [results, Try.results16, go_sem, z0, z1, z2]) rfl ?_
    exact ⟨⟨0, 0, none, 0, []⟩, rfl, rfl, sl_nil _, (((below_step hb2 hb3).setCell (p := ⟨w.heap.size + 1, 0, none⟩) hws _).setCell (p := ⟨w.heap.size + 1, 1, none⟩) hws _).setCell (p := ⟨w.heap.size + 1, 2, none⟩) hws _⟩
  · obtain ⟨r0, r2, r3, _⟩ := rightL_iff.1 hr
    rw [ha] at K
    cases i with
    | zero =>
      have q1 : (n == s) = true := by simp; omega
      rw [atE_zero ha]
      clear ha hr hn
      go_enter Try.func16, Try.ntmps16
      go_wp2_with fail
      refine K.out.mono ?_
      rintro e w2 ⟨rfl, hb3⟩
      obtain ⟨v0, v1, v2, f0, f1, f2, hz⟩ := V.out.on hb3
      obtain ⟨u0, u1, _⟩ := U.out.on hb3
      rw [size_run] at v0 v1 v2 f0 f1 f2 hz
      obtain ⟨z0, z1, z2⟩ := set3_cells v0 v1 v2 (.int .i64 0) (.int .i64 0) (.slice none 0 0)
      go_wp2_with fail
      refine bodyPost_ret (v := .tuple #[.agg #[.int .i64 0, .int .i64 0, .slice none 0 0], .bool false]) (by simp [results, Try.results16, go_sem, z0, z1, z2]) rfl ?_
      exact ⟨⟨0, 0, none, 0, []⟩, rfl, rfl, sl_nil _, (((below_step hb2 hb3).setCell (p := ⟨w.heap.size + 1, 0, none⟩) hws _).setCell (p := ⟨w.heap.size + 1, 1, none⟩) hws _).setCell (p := ⟨w.heap.size + 1, 2, none⟩) hws _⟩
    | succ i =>
      have HL := hid h.len
      have hlt : i < xs.length := by have := HL.out; omega
      have hx : L[i]? = some xs[i].data := by
        rw [List.getElem?_eq_getElem (by omega), en_data_at h.2.2 i hlt (by omega)]
      have q1 : (n == s) = false := by simp; omega
      rw [atE_some ha, hx]
      have hsl := h.1.2 xs[i] (List.getElem_mem hlt) (xs[i].val, xs[i].op) (by simp [enEl])
      have HH := hid (fun W (hW : Below w.heap.size w W) => en_at (h.below hW).1 i hlt)
      generalize xs[i] = x at hsl HH
      have e0 : IntKind.i64.wrap (n - s) = n - s := wrap_of _ (by omega) (by omega)
      have e1 : IntKind.i64.wrap (n - s - 1) = (i : Int) := (wrap_of _ (by omega) (by omega)).trans (by omega)
      have i1 : (i : Int) < xs.length := by omega
      clear ha hr hn hx hi r2 r3 r0
      go_enter Try.func16, Try.ntmps16
      go_wp2_with fail
      refine K.out.mono ?_
      rintro e w2 ⟨rfl, hb3⟩
      obtain ⟨u0, u1, _⟩ := U.out.on hb3
      obtain ⟨v0, v1, v2, f0, f1, f2, hz⟩ := V.out.on hb3
      rw [size_run] at v0 v1 v2 f0 f1 f2 hz
      have bb := below_step hb2 hb3
      obtain ⟨ad, rfl, h1, h2, h3, _⟩ := HH.out w2 bb
      obtain ⟨z0, z1, z2⟩ := set3_cells v0 v1 v2 (.int .i64 x.c) (.int .i64 x.r) (.slice x.A x.op.length x.cap)
      go_wp2_with fail
      refine bodyPost_ret (v := .tuple #[x.agg, .bool true]) (by simp [results, Try.results16, go_sem, z0, z1, z2, En.agg]) rfl ?_
      have bf := ((bb.setCell (p := ⟨w.heap.size + 1, 0, none⟩) hws (.int .i64 x.c)).setCell (p := ⟨w.heap.size + 1, 1, none⟩) hws (.int .i64 x.r)).setCell (p := ⟨w.heap.size + 1, 2, none⟩) hws (.slice x.A x.op.length x.cap)
      exact ⟨x, rfl, rfl, hsl.keep (fun p u hp => cell_on bf hp), bf⟩
theorem hits_neg {cl rq : Int} {x : En} : hits cl rq x.data = true ↔ x.c = cl ∧ x.r = rq := by
  show (decide (x.c = cl) && decide (x.r = rq)) = true ↔ _
  rw [Bool.and_eq_true, decide_eq_true_iff, decide_eq_true_iff]
set_option maxRecDepth 100000 in
set_option maxHeartbeats 1600000 in
theorem rfind_any {s : Int} {A : Option Addr} {c : Nat} {xs : List En} {L : EL} {w : World} (h : Lg w A c xs L) (cl rq : Int) :
    Calls Try.prog 19 #[.agg #[.int .i64 s, .slice A xs.length c], .int .i64 cl, .int .i64 rq] w fun e w' => e = .returned (.int .i64 (findL s L cl rq)) ∧ Below w.heap.size w w' := by
  have hb := below_alloc w (.cells #[.int .i64 s, .slice A xs.length c] 26)
  obtain ⟨w1, hw1⟩ : ∃ w1, w.alloc (.cells #[.int .i64 s, .slice A xs.length c] 26) = w1 := ⟨_, rfl⟩
  have U := hid (Var2.new w (.int .i64 s) (.slice A xs.length c) 26)
  rw [hw1] at hb U
  have K := hid (rright_any (s := s) (h.below hb))
  have HL := hid h.len
  obtain ⟨u0, u1, _⟩ := U.out
  cases hr : rightL s L with
  | false =>
    have hF : findL s L cl rq = 0 := by rw [findL, hr]; rfl
    rw [hF]
    rw [hr] at K
    clear hr hF
    go_enter Try.func19, Try.ntmps19
    go_wp2_with fail
    refine K.out.mono ?_
    rintro e w2 ⟨rfl, hb2⟩
    go_wp2_with fail
    go_ret
    exact ⟨rfl, below_step hb hb2⟩
  | true =>
    rw [hr] at K
    obtain ⟨r1, r2, r3, _⟩ := rightL_iff.1 hr
    have hl64 : xs.length ≤ 64 := by have := HL.out; omega
    have hsl : s + xs.length ≤ 1099511627776 := by have := HL.out; omega
    have HF := hid (show findL s L cl rq = (match lastIx (hits cl rq) L with | some i => s + i + 1 | none => 0) by rw [findL, if_pos hr]; rfl)
    have e1 : IntKind.i64.wrap ((xs.length : Int) - 1) = (xs.length : Int) - 1 := wrap_of _ (by omega) (by omega)
    clear hr r2 r3
    go_enter Try.func19, Try.ntmps19
    go_wp2_with fail
    refine K.out.mono ?_
    rintro e w2 ⟨rfl, hb2⟩
    obtain ⟨u0, u1, _⟩ := U.out.on hb2
    go_wp2_with fail
    go_loopw [8] (fun i W => ∃ (k : Nat) (z : Int), k ≤ xs.length ∧ i = .int .i64 z ∧ Hid (z = (xs.length : Int) - 1 - k) ∧ Hid (∀ q ∈ dn xs k, hits cl rq q.2.data = false) ∧ Below w2.heap.size w2 W) (fun i _ => ((intOf i) + 1).toNat)
    case atStart => exact ⟨0, _, Nat.zero_le _, rfl, hid (by omega), hid (by simp [dn]), Below.refl _ _⟩
    case round =>
      obtain ⟨k, z, hk, rfl, HZ, HH, hbr⟩ := hrel
      obtain ⟨u0, u1, _⟩ := (U.out.on hb2).on hbr
      have bb := below_step hb (below_step hb2 hbr)
      by_cases hlt : k < xs.length
      · obtain ⟨m, rfl⟩ : ∃ m : Nat, z = (m : Int) := ⟨z.toNat, by have := HZ.out; omega⟩
        have hm : m < xs.length := by have := HZ.out; omega
        have hd := hid (dnAt_at (k := k) (show m = xs.length - 1 - k by have := HZ.out; omega) hm)
        obtain ⟨ad, rfl, g1, g2, g3, _⟩ := en_at (h.below bb).1 m hm
        generalize xs[m] = x at hd g1 g2 g3
        have i0 : (0 : Int) ≤ m := by omega
        have i1 : (m : Int) < xs.length := by omega
        have e2 : IntKind.i64.wrap ((m : Int) - 1) = (m : Int) - 1 := wrap_of _ (by omega) (by omega)
        have hnext : hits cl rq x.data = false → ∀ q ∈ dn xs (k + 1), hits cl rq q.2.data = false := fun hh q hq => by
          rw [dn_succ] at hq
          rcases List.mem_append.1 hq with hq | hq
          · exact HH.out q hq
          · rw [List.mem_singleton.1 hq, hd.out]; exact hh
        have HNX := hid hnext
        clear hnext
        by_cases q1 : x.c = cl
        · have p1 : (x.c == cl) = true := by simpa using q1
          by_cases q2 : x.r = rq
          · have p2 : (x.r == rq) = true := by simpa using q2
            have hv := last_some h.2.2 (p := hits cl rq) hlt HH.out (by rw [hd.out]; exact hits_neg.2 ⟨q1, q2⟩)
            have a1 : IntKind.i64.wrap (s + (m : Int)) = s + (m : Int) := wrap_of _ (by omega) (by omega)
            have a2 : IntKind.i64.wrap (s + (m : Int) + 1) = s + (m : Int) + 1 := wrap_of _ (by omega) (by omega)
            have HV := hid (show findL s L cl rq = s + (m : Int) + 1 by
              rw [HF.out, hv]
              show s + ((xs.length - 1 - k : Nat) : Int) + 1 = s + (m : Int) + 1
              have := HZ.out
              omega)
            clear q1 q2 hv
            go_wp2_with fail
            go_ret
            exact ⟨by rw [HV.out, ← a2, ← a1]; simp [a1, a2], bb⟩
          · have p2 : (x.r == rq) = false := by simpa using q2
            have hnh := HNX.out (by
              cases hh : hits cl rq x.data with
              | false => rfl
              | true => exact absurd (hits_neg.1 hh).2 q2)
            have HN := hid hnh
            clear q1 q2 hnh
            go_wp2_with fail
            go_roundw
            case rel => exact ⟨k + 1, _, by omega, rfl, hid (by have := HZ.out; omega), HN, hbr⟩
            case measure => simp [intOf]
        · have p1 : (x.c == cl) = false := by simpa using q1
          have hnh := HNX.out (by
            cases hh : hits cl rq x.data with
            | false => rfl
            | true => exact absurd (hits_neg.1 hh).1 q1)
          have HN := hid hnh
          clear q1 hnh
          go_wp2_with fail
          go_roundw
          case rel => exact ⟨k + 1, _, by omega, rfl, hid (by have := HZ.out; omega), HN, hbr⟩
          case measure => simp [intOf]
      · obtain rfl : k = xs.length := by omega
        have hz0 : ¬ (0 : Int) ≤ z := by have := HZ.out; omega
        have HV := hid (show findL s L cl rq = 0 by rw [HF.out, last_none h.2.2 HH.out])
        go_wp2_with fail
        go_ret
        exact ⟨by rw [HV.out]; rfl, bb⟩
end Go.Proofs.Ytbfjhclibbonjaa
