import Derived.Test.YtengfmcfklakbaaDoorSealF
import Derived.Test.YtengfmcfklakbaaDoorOpen
namespace Go.Proofs.YtengfmcfklakbaaDoor
open Go.RowKit Go.Cov
theorem open_four (x0 x1 x2 x3 : UInt8) : openL [x0, x1, x2, x3] = [] ∧ openE [x0, x1, x2, x3] = if x0 = 0 ∧ x1 = 0 ∧ x2 = 0 ∧ x3 = 0 then 0 else 21 := by
  have hs : sealed [] = [0, 0, 0, 0] := by decide +kernel
  constructor
  · rw [openL, if_neg (by simp)]
    simp
  · rw [openE, if_neg (by simp), show List.drop 4 [x0, x1, x2, x3] = [] from rfl, hs]
    congr 1
    simp [eq_comm]
set_option maxRecDepth 100000 in
set_option maxHeartbeats 1600000 in
theorem short_law {A : Option Addr} {c : Nat} {l : List UInt8} {w : World} {n : Int} (h : Rd w A (l.map byt)) (hc : l.length ≤ c) (hl : l.length ≤ 140737488351232) (hn : (Lit.int .u8 n).wf = true) (ht : Tab w) :
    Calls Tryd.prog 8 #[.slice A l.length c, .int .u8 n] w fun e w' => e = .returned (.bool true) ∧ Below w.heap.size w w' := by
  obtain ⟨b, rfl⟩ := u8_of_wf hn
  clear hn
  have tail : ∀ {w : World} (ht : Tab w), Calls Tryd.prog 10 #[.slice (some ⟨w.heap.size, 0, none⟩) 1 1] (w.alloc (.cells #[.int .u8 b.toNat] 5)) fun e w' => ∃ ad c2, e = .returned (.slice (some ad) 5 c2) ∧ w'.cell? ⟨ad.block, ad.off + 4, none⟩ = some (.int .u8 b.toNat) ∧ Below w.heap.size w w' := by
    intro w ht
    have hb := below_alloc w (.cells #[.int .u8 b.toNat] 5)
    refine (seal_any (l := [b]) (rd_box w #[.int .u8 b.toNat] 5) (by simp) (ht.below hb)).mono ?_
    rintro e w2 ⟨v2, rfl, hown2, hb2⟩
    obtain ⟨A2, c2, rfl, hc2, _⟩ := own_shape hown2
    obtain ⟨ad, rfl, hcell⟩ := own_rd hown2 4 (byt b) rfl
    exact ⟨ad, c2, rfl, hcell, hb.trans (hb2.mono hb.size)⟩
  go_enter Tryd.func8, Tryd.ntmps8
  go_wp2_with fail
  refine (head_any ht).mono ?_
  rintro e w1 ⟨rfl, hb1⟩
  by_cases h4 : l.length < 4
  · have e1 : openL l = [] := by rw [openL, if_pos h4]
    have e2 : openE l = 11 := by rw [openE, if_pos h4]
    go_wp2_with fail
    refine (open_any (h.below hb1) hc (by omega) (ht.below hb1)).mono ?_
    rw [e1, e2]
    rintro e w2 ⟨v2, rfl, hown2, hb2'⟩
    obtain ⟨A2, c2, rfl, hc2, _⟩ := own_shape hown2
    have hb2 := hb1.trans (hb2'.mono hb1.size)
    go_wp2_with fail
    refine (tail (ht.below hb2)).mono ?_
    rintro e w3 ⟨ad, c3, rfl, hcell, hb3⟩
    go_wp2_with fail
    go_ret
    exact ⟨rfl, hb2.trans (hb3.mono hb2.size)⟩
  · by_cases h5 : l.length = 4
    · obtain ⟨x0, x1, x2, x3, rfl⟩ : ∃ x0 x1 x2 x3, l = [x0, x1, x2, x3] := by
        match l, h5 with
        | [x0, x1, x2, x3], _ => exact ⟨_, _, _, _, rfl⟩
      clear h4
      obtain ⟨ad, rfl, hc0⟩ := h 0 (byt x0) rfl
      simp only [List.length_cons, List.length_nil, Nat.zero_add, Nat.reduceAdd] at *
      go_wp2_with fail
      refine (open_any (l := [x0, x1, x2, x3]) (h.below hb1) hc (by simp) (ht.below hb1)).mono ?_
      rw [(open_four x0 x1 x2 x3).1, (open_four x0 x1 x2 x3).2]
      rintro e w2 ⟨v2, rfl, hown2, hb2'⟩
      obtain ⟨A2, c2, rfl, hc2, _⟩ := own_shape hown2
      have hb2 := hb1.trans (hb2'.mono hb1.size)
      have h2 := h.below hb2
      obtain ⟨_, hh0, k0⟩ := h2 0 (byt x0) rfl
      obtain ⟨_, hh1, k1⟩ := h2 1 (byt x1) rfl
      obtain ⟨_, hh2, k2⟩ := h2 2 (byt x2) rfl
      obtain ⟨_, hh3, k3⟩ := h2 3 (byt x3) rfl
      cases hh0; cases hh1; cases hh2; cases hh3
      have hadd : ad.add 0 = ad := by simp [Addr.add]
      rw [hadd] at k0
      simp only [byt] at k0 k1 k2 k3
      replace k1 : w2.cell? ⟨ad.block, ad.off + 1, none⟩ = some (.int .u8 x1.toNat) := k1
      replace k2 : w2.cell? ⟨ad.block, ad.off + 2, none⟩ = some (.int .u8 x2.toNat) := k2
      replace k3 : w2.cell? ⟨ad.block, ad.off + 3, none⟩ = some (.int .u8 x3.toNat) := k3
      clear h2 h hc0
      have z : ∀ x : UInt8, (x = 0 ∧ (x.toNat : Int) = 0) ∨ (x ≠ 0 ∧ ((x.toNat : Int) == 0) = false) := by
        intro x
        by_cases hx : x = 0
        · exact .inl ⟨hx, by subst hx; rfl⟩
        · exact .inr ⟨hx, by simpa using ne_byte (b := 0) hx⟩
      rcases z x0 with ⟨y0, z0⟩ | ⟨y0, z0⟩
      · rcases z x1 with ⟨y1, z1⟩ | ⟨y1, z1⟩
        · rcases z x2 with ⟨y2, z2⟩ | ⟨y2, z2⟩
          · rcases z x3 with ⟨y3, z3⟩ | ⟨y3, z3⟩
            · rw [if_pos ⟨y0, y1, y2, y3⟩]
              rw [z0] at k0; rw [z1] at k1; rw [z2] at k2; rw [z3] at k3
              clear y0 y1 y2 y3 z0 z1 z2 z3 z
              go_wp2_with fail
              refine (tail (ht.below hb2)).mono ?_
              rintro e w3 ⟨ad, c3, rfl, hcell, hb3⟩
              go_wp2_with fail
              go_ret
              exact ⟨rfl, hb2.trans (hb3.mono hb2.size)⟩
            · rw [if_neg (by simp [y3])]
              rw [z0] at k0; rw [z1] at k1; rw [z2] at k2
              clear y0 y1 y2 y3 z0 z1 z2 z
              go_wp2_with fail
              refine (tail (ht.below hb2)).mono ?_
              rintro e w3 ⟨ad, c3, rfl, hcell, hb3⟩
              go_wp2_with fail
              go_ret
              exact ⟨rfl, hb2.trans (hb3.mono hb2.size)⟩
          · rw [if_neg (by simp [y2])]
            rw [z0] at k0; rw [z1] at k1
            clear y0 y1 y2 z0 z1 z
            go_wp2_with fail
            refine (tail (ht.below hb2)).mono ?_
            rintro e w3 ⟨ad, c3, rfl, hcell, hb3⟩
            go_wp2_with fail
            go_ret
            exact ⟨rfl, hb2.trans (hb3.mono hb2.size)⟩
        · rw [if_neg (by simp [y1])]
          rw [z0] at k0
          clear y0 y1 z0 z
          go_wp2_with fail
          refine (tail (ht.below hb2)).mono ?_
          rintro e w3 ⟨ad, c3, rfl, hcell, hb3⟩
          go_wp2_with fail
          go_ret
          exact ⟨rfl, hb2.trans (hb3.mono hb2.size)⟩
      · rw [if_neg (by simp [y0])]
        clear y0 z
        go_wp2_with fail
        refine (tail (ht.below hb2)).mono ?_
        rintro e w3 ⟨ad, c3, rfl, hcell, hb3⟩
        go_wp2_with fail
        go_ret
        exact ⟨rfl, hb2.trans (hb3.mono hb2.size)⟩
    · go_wp2_with fail
      refine (tail (ht.below hb1)).mono ?_
      rintro e w3 ⟨ad, c3, rfl, hcell, hb3⟩
      go_wp2_with fail
      go_ret
      exact ⟨rfl, hb1.trans (hb3.mono hb1.size)⟩
end Go.Proofs.YtengfmcfklakbaaDoor
