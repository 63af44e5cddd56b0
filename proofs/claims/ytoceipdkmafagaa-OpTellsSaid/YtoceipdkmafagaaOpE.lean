import Derived.Test.YtoceipdkmafagaaOpC
import Derived.Test.YtoceipdkmafagaaPlain1
/-! the ref's op: may it be an operation -/
namespace Go.Proofs.Ytoceipdkmafagaa
open Go.RowKit Go.Cov

set_option maxRecDepth 100000 in
set_option maxHeartbeats 6400000 in
theorem rright_any (o : Oa) {w : World} (h : OaRd w o) : Calls Try.prog 18 #[o.val] w fun e w' => e = .returned (.bool (rightO o.data)) ∧ Below w.heap.size w w' := by
  have b0 := below_alloc w (.cells o.cells.toArray 25)
  have h1 := h.below b0
  rw [rightO_of]
  have s1 := size_str o.n
  have s2 := size_str o.f
  have C0 := box_cell w o.cells.toArray 25 0 _ rfl
  have C1 := box_cell w o.cells.toArray 25 1 _ rfl
  have C2 := box_cell w o.cells.toArray 25 2 _ rfl
  have C3 := box_cell w o.cells.toArray 25 3 _ rfl
  have C4 := box_cell w o.cells.toArray 25 4 _ rfl
  have C5 := box_cell w o.cells.toArray 25 5 _ rfl
  have C6 := box_cell w o.cells.toArray 25 6 _ rfl
  unfold Oa.val Oa.cells at *
  by_cases c_k0 : 1 ≤ o.k
  case neg =>
    have j_k0 : decide (o.k < (1 : Int)) = true := decide_eq_true (by omega)
    have e : rightN o.k o.n.length o.s.length o.f.length o.a.length o.key.length = false := decide_eq_false (by omega)
    rw [e]
    clear e
    clear C0 C1 C2 C3 C4 C5 C6
    go_enter Try.func18, Try.ntmps18
    go_wp2_with fail
    go_ret
    exact ⟨rfl, b0⟩
  have j_k0 : decide (o.k < (1 : Int)) = false := decide_eq_false (by omega)
  by_cases c_k1 : o.k ≤ 3
  case neg =>
    have j_k1 : decide ((3 : Int) < o.k) = true := decide_eq_true (by omega)
    have e : rightN o.k o.n.length o.s.length o.f.length o.a.length o.key.length = false := decide_eq_false (by omega)
    rw [e]
    clear e
    clear C0 C1 C2 C3 C4 C5 C6
    go_enter Try.func18, Try.ntmps18
    go_wp2_with fail
    go_ret
    exact ⟨rfl, b0⟩
  have j_k1 : decide ((3 : Int) < o.k) = false := decide_eq_false (by omega)
  by_cases c_n : o.n.length ≤ 16
  case neg =>
    have j_n : decide ((16 : Int) < (o.n.length : Int)) = true := decide_eq_true (by omega)
    have e : rightN o.k o.n.length o.s.length o.f.length o.a.length o.key.length = false := decide_eq_false (by omega)
    rw [e]
    clear e
    clear C0 C1 C2 C3 C4 C5 C6
    go_enter Try.func18, Try.ntmps18
    go_wp2_with fail
    go_ret
    exact ⟨rfl, b0⟩
  have j_n : decide ((16 : Int) < (o.n.length : Int)) = false := decide_eq_false (by omega)
  by_cases c_f : o.f.length ≤ 16
  case neg =>
    have j_f : decide ((16 : Int) < (o.f.length : Int)) = true := decide_eq_true (by omega)
    have e : rightN o.k o.n.length o.s.length o.f.length o.a.length o.key.length = false := decide_eq_false (by omega)
    rw [e]
    clear e
    clear C0 C1 C2 C3 C4 C5 C6
    go_enter Try.func18, Try.ntmps18
    go_wp2_with fail
    go_ret
    exact ⟨rfl, b0⟩
  have j_f : decide ((16 : Int) < (o.f.length : Int)) = false := decide_eq_false (by omega)
  by_cases c_s : o.s.length ≤ 4097
  case neg =>
    have j_s : decide ((4097 : Int) < (o.s.length : Int)) = true := decide_eq_true (by omega)
    have e : rightN o.k o.n.length o.s.length o.f.length o.a.length o.key.length = false := decide_eq_false (by omega)
    rw [e]
    clear e
    clear C0 C1 C2 C3 C4 C5 C6
    go_enter Try.func18, Try.ntmps18
    go_wp2_with fail
    go_ret
    exact ⟨rfl, b0⟩
  have j_s : decide ((4097 : Int) < (o.s.length : Int)) = false := decide_eq_false (by omega)
  by_cases c_a : o.a.length ≤ 16
  case neg =>
    have j_a : decide ((16 : Int) < (o.a.length : Int)) = true := decide_eq_true (by omega)
    have e : rightN o.k o.n.length o.s.length o.f.length o.a.length o.key.length = false := decide_eq_false (by omega)
    rw [e]
    clear e
    clear C0 C1 C2 C3 C4 C5 C6
    go_enter Try.func18, Try.ntmps18
    go_wp2_with fail
    go_ret
    exact ⟨rfl, b0⟩
  have j_a : decide ((16 : Int) < (o.a.length : Int)) = false := decide_eq_false (by omega)
  by_cases c_key : o.key.length ≤ 65
  case neg =>
    have j_key : decide ((65 : Int) < (o.key.length : Int)) = true := decide_eq_true (by omega)
    have e : rightN o.k o.n.length o.s.length o.f.length o.a.length o.key.length = false := decide_eq_false (by omega)
    rw [e]
    clear e
    clear C0 C1 C2 C3 C4 C5 C6
    go_enter Try.func18, Try.ntmps18
    go_wp2_with fail
    go_ret
    exact ⟨rfl, b0⟩
  have j_key : decide ((65 : Int) < (o.key.length : Int)) = false := decide_eq_false (by omega)
  have e : rightN o.k o.n.length o.s.length o.f.length o.a.length o.key.length = true := decide_eq_true (by omega)
  rw [e]
  clear e
  have hm2 : o.a.length ≤ 16 := c_a
  go_enter Try.func18, Try.ntmps18
  obtain ⟨w1, hw1⟩ : ∃ w1, w.alloc (.cells #[.int .i64 o.k, .string (str o.n), .slice o.sA o.s.length o.sc, .string (str o.f), .slice o.aA o.a.length o.ac, .int .i64 o.g, .slice o.kA o.key.length o.kc] 25) = w1 := ⟨_, rfl⟩
  rw [hw1] at C0 C1 C2 C3 C4 C5 C6
  have hb0 : Below w.heap.size w w1 := by rw [← hw1]; exact b0
  have h1 := h.below hb0
  go_upto_region 1 with fail
  try rw [hw1]
  clear hw1
  go_wp2_with fail
  go_loopw [3] (fun i W => ∃ k : Nat, k ≤ o.a.length ∧ i = .int .i64 k ∧ (∀ j, (hj : j < o.a.length) → j < k → argOk o.a[j].data = true) ∧ Below w1.heap.size w1 W) (fun i _ => o.a.length - (RowKit.intOf i).toNat)
  case atStart => exact ⟨0, by omega, rfl, fun j _ hj => by omega, Below.refl _ _⟩
  case round =>
    obtain ⟨k, hk, rfl, hall, hb⟩ := hrel
    have D4 := cell_on hb C4
    by_cases hlt : k < o.a.length
    · have i1 : (k : Int) < o.a.length := by omega
      obtain ⟨ad, had, x0, x1, x2, rx⟩ := en_at (h1.a.below hb) k hlt
      rw [had] at D4
      replace had := hid had
      have hd : argOk o.a[k].data = (decide (o.a[k].c ≠ 0) && plainN o.a[k].c o.a[k].r o.a[k].op.length) := rfl
      cases hz : plainN o.a[k].c o.a[k].r o.a[k].op.length with
      | false =>
        rw [hz, Bool.and_false] at hd
        go_wp2_with fail
        refine (rplain_any _ _ _ _ _ _).mono ?_
        rintro e w2 ⟨rfl, hb2⟩
        rw [hz]
        go_wp2_with fail
        go_ret
        refine ⟨?_, hb0.trans (below_step hb hb2 |>.mono hb0.size)⟩
        have := notall o.a k hlt hd
        simpa using this
      | true =>
        rw [hz, Bool.and_true] at hd
        by_cases t0 : o.a[k].c = 0
        · rw [t0] at hd
          have hd : argOk o.a[k].data = false := hd
          rw [t0] at x0
          have K4 := fun W (hW : Below wr.heap.size wr W) => cell_on hW D4
          have X0 := fun W (hW : Below wr.heap.size wr W) => cell_on hW x0
          go_wp2_with fail
          refine (rplain_any _ _ _ _ _ _).mono ?_
          rintro e w2 ⟨rfl, hb2⟩
          have E4 := K4 _ hb2
          have E0 := X0 _ hb2
          rw [← t0, hz]
          go_wp2_with fail
          go_ret
          refine ⟨?_, hb0.trans (below_step hb hb2 |>.mono hb0.size)⟩
          have := notall o.a k hlt hd
          simpa using this
        · have hd : argOk o.a[k].data = true := by rw [hd]; exact decide_eq_true t0
          have t1 : (o.a[k].c == 0) = false := by simp [t0]
          go_wp2_with fail
          refine (rplain_any _ _ _ _ _ _).mono ?_
          rintro e w2 ⟨rfl, hb2⟩
          have E4 := cell_on hb2 D4
          have E0 := cell_on hb2 x0
          rw [hz]
          go_wp2_with fail
          go_roundw
          case rel => refine ⟨k + 1, by omega, by go_num, fun j hj hj2 => ?_, below_step hb hb2⟩; exact (if hjk : j = k then by subst hjk; exact hd else hall j hj (by omega))
          case measure => simp [RowKit.intOf]; omega
    · obtain rfl : k = o.a.length := by omega
      go_wp2_with fail
      go_ret
      exact ⟨by rw [allok o.a (fun j hj => hall j hj hj)]; rfl, hb0.trans (hb.mono hb0.size)⟩

end Go.Proofs.Ytoceipdkmafagaa