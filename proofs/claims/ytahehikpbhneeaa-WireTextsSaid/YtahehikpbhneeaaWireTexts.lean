import Derived.Test.YtahehikpbhneeaaWireN
import Derived.Test.YtahehikpbhneeaaTurn
namespace Go.Proofs.Ytahehikpbhneeaa
open Go.RowKit Go.Cov
set_option maxRecDepth 100000 in
set_option maxHeartbeats 3200000 in
theorem texts_law {A B C : Option Addr} {c d f : Nat} {s l : List UInt8} {ls : List (List UInt8)} {w : World} (hs : Rd w A (s.map byt)) (g : RowRd w B ls) (hls : ls.length ≤ 140737488351236) (h : Rd w C (l.map byt)) (hc : l.length ≤ f) (hl : l.length ≤ 140737488351232) (a : Int) :
    Calls Try.prog 6 #[.slice A s.length c, .slice B ls.length d, .slice C l.length f, .int .i64 a] w fun e w' => e = .returned (.bool true) ∧ Below w.heap.size w w' := by
  have k1 := fun W (hW : Rd W A (s.map byt)) => putbytes_any (c := c) hW
  have k2 := fun W (hW : Rd W A (s.map byt)) => rputbytes_any (c := c) hW
  have k3 := fun W (hW : RowRd W B ls) => putrow_any (c := d) hW hls
  have k4 := fun W (hW : RowRd W B ls) => rputrow_any (c := d) hW hls
  have k5 := fun A' f' W (hW : Rd W A' (l.map byt)) (hf : l.length ≤ f') => bytes_any hW hf (by omega) a
  have k6 := fun W (hW : Rd W C (l.map byt)) => rbytes_any hW hc (by omega) a
  have k7 := fun A' f' W (hW : Rd W A' (l.map byt)) (hf : l.length ≤ f') => row_any hW hf (by omega) a
  have k8 := fun W (hW : Rd W C (l.map byt)) => rrow_any hW hc (by omega) a
  have hrl : (rowR l a).1.length ≤ 140737488351236 := rowR_len l a
  revert k1 k2 k3 k4 k5 k6 k7 k8 hrl
  generalize putBytesR s = p1
  generalize putRowR ls = p2
  generalize bytesR l a = p3
  generalize rowR l a = p4
  obtain ⟨t1, e1⟩ := p1
  obtain ⟨t2, e2⟩ := p2
  obtain ⟨t3, q3, e3⟩ := p3
  obtain ⟨t4, q4, e4⟩ := p4
  dsimp only
  intro k1 k2 k3 k4 k5 k6 k7 k8 hrl
  have K1 := hid k1
  have K2 := hid k2
  have K3 := hid k3
  have K4 := hid k4
  have K5 := hid k5
  have K6 := hid k6
  have K7 := hid k7
  have K8 := hid k8
  clear k1 k2 k3 k4 k5 k6 k7 k8
  go_enter Try.func6, Try.ntmps6
  go_wp2_with fail
  refine (head_any w).mono ?_
  rintro e w1 ⟨rfl, hb1⟩
  have h1 := h.below hb1
  have hown : (w1.alloc (.cells #[] 5)).ownsRow w1.heap.size 5 1 (.slice (some ⟨w1.heap.size, 0, none⟩) 0 0) 0 [] := World.ownsRow_made w1 #[] 0 (Nat.le_refl _) (by simp [maxLen]) rfl
  go_wp2_with (at_builtin; refine wpList_app rfl (.tmp 33) (.tmp 34) 22 rfl w1.heap.size 5 Try.underlying22 infoB rfl (by decide) (.slice (some ⟨w1.heap.size, 0, none⟩) 0 0) 0 _ rfl hown C l.length f (l.map byt) rfl (by simp) (h1.alloc _) (byt_one l) (by omega) (by omega) (by simp) ?_; intro v2 w2 hin2 hg2 hat2; simp only [Nat.zero_add, List.nil_append] at hin2; have hb2 : Below w1.heap.size w1 w2 := ((below_alloc w1 _).grown hg2 (by simp) (by intro k hk; simp [Value.ownBlock] at hk; omega)))
  obtain ⟨A2, c2, hv2, hc2, _⟩ := own_shape hin2
  subst hv2
  have b2 := below_step hb1 hb2
  refine (K1.out _ (hs.below b2)).mono ?_
  rintro e w3 ⟨v3, rfl, own3, hb3⟩
  obtain ⟨A3, c3, rfl, hc3, _⟩ := own_shape own3
  have b3 := below_step b2 hb3
  go_wp2_with fail
  refine (K2.out _ (hs.below b3)).mono ?_
  rintro e w4 ⟨v4, rfl, own4, hb4⟩
  obtain ⟨A4, c4, rfl, hc4, _⟩ := own_shape own4
  have b4 := below_step b3 hb4
  have s4 := below_step hb3 hb4
  go_wp2_with fail
  refine (K3.out _ (g.below b4)).mono ?_
  rintro e w5 ⟨v5, rfl, own5, hb5⟩
  obtain ⟨A5, c5, rfl, hc5, _⟩ := own_shape own5
  have b5 := below_step b4 hb5
  have s5 := below_step s4 hb5
  go_wp2_with fail
  refine (K4.out _ (g.below b5)).mono ?_
  rintro e w6 ⟨v6, rfl, own6, hb6⟩
  obtain ⟨A6, c6, rfl, hc6, _⟩ := own_shape own6
  have b6 := below_step b5 hb6
  have s6 := below_step s5 hb6
  go_wp2_with fail
  refine (K5.out _ _ _ (own_rd (own_below hin2 s6)) hc2).mono ?_
  rintro e w7 ⟨v7, rfl, own7, hb7⟩
  obtain ⟨A7, c7, rfl, hc7, _⟩ := own_shape own7
  have b7 := below_step b6 hb7
  have s7 := below_step s6 hb7
  go_wp2_with fail
  refine (K6.out _ (h.below b7)).mono ?_
  rintro e w8 ⟨v8, rfl, own8, hb8⟩
  obtain ⟨A8, c8, rfl, hc8, _⟩ := own_shape own8
  have b8 := below_step b7 hb8
  have s8 := below_step s7 hb8
  go_wp2_with fail
  refine (K7.out _ _ _ (own_rd (own_below hin2 s8)) hc2).mono ?_
  rintro e w9 ⟨v9, rfl, own9, hb9⟩
  have b9 := below_step b8 hb9
  have s9 := below_step s8 hb9
  go_wp2_with fail
  refine (K8.out _ (h.below b9)).mono ?_
  rintro e w10 ⟨v10, rfl, own10, hb10⟩
  have b10 := below_step b9 hb10
  have s10 := below_step s9 hb10
  have hin := own_below hin2 s10
  go_wp2_with fail
  go_loopw [31] (fun i W => ∃ (k : Nat) (xs : List UInt8), k ≤ l.length ∧ i = .int .i64 k ∧ xs.length = l.length ∧ W.ownsRow w1.heap.size 5 1 (.slice A2 l.length c2) l.length (xs.map byt) ∧ w10.grownBy W (Value.slice A2 l.length c2).ownBlock) (fun i _ => l.length - (intOf i).toNat)
  case atStart => exact ⟨0, l, Nat.zero_le _, rfl, rfl, hin, World.grownBy.refl _ _⟩
  case round =>
    obtain ⟨k, xs, hk, rfl, hxl, hown', hg⟩ := hrel
    by_cases hlt : k < l.length
    · obtain ⟨g, rfl⟩ : ∃ g, A2 = some ⟨g, 0, none⟩ := by
        rcases hown'.2 with ⟨hv, hn⟩ | ⟨g, cap, cur, hv, _⟩
        · omega
        · injection hv with hv; exact ⟨g, hv⟩
      have hck : wr.cell? ⟨g, k, none⟩ = some (.int .u8 (xs[k]'(by omega)).toNat) := by
        rw [hown'.cellAt k (by omega), List.getElem?_map, List.getElem?_eq_getElem (by omega)]; rfl
      have hfk := hown'.frozenAt k
      generalize hb : xs[k]'(by omega) = b at hck
      obtain ⟨b1, b2⟩ := hown'.stored k (byt (b + 1))
      have Hxl := hid hxl
      clear hxl hb
      go_wp2_with fail
      have e1 : byt (b + 1) = .int .u8 (((b.toNat : Int) + 1) % 256) := by
        unfold byt
        rw [UInt8.toNat_add]
        simp
      rw [e1] at b1 b2
      go_roundw
      case rel => exact ⟨k + 1, xs.set k (b + 1), by omega, by go_num, by simpa using Hxl.out, by rw [List.map_set, e1]; exact b1, grown_after hg b2 (fun j hj => .inr rfl)⟩
      case measure => simp [intOf]; omega
    · have hA2 : ∀ g, (Value.slice A2 l.length c2).ownBlock = some g → g < w2.heap.size := fun g hg => (own_lt hin2 hg).2
      have z3 := hb3.size
      have z4 := hb4.size
      have z5 := hb5.size
      have z6 := hb6.size
      have z7 := hb7.size
      have z8 := hb8.size
      have z9 := hb9.size
      have z10 := hb10.size
      have o3 := own_rd (own_keep (own_below own3 (below_step hb4 (below_step hb5 (below_step hb6 (below_step hb7 (below_step hb8 (below_step hb9 hb10))))))) hg (fun g hg => by have := hA2 g hg; omega))
      have o4 := own_rd (own_keep (own_below own4 (below_step hb5 (below_step hb6 (below_step hb7 (below_step hb8 (below_step hb9 hb10)))))) hg (fun g hg => by have := hA2 g hg; omega))
      have o5 := own_rd (own_keep (own_below own5 (below_step hb6 (below_step hb7 (below_step hb8 (below_step hb9 hb10))))) hg (fun g hg => by have := hA2 g hg; omega))
      have o6 := own_rd (own_keep (own_below own6 (below_step hb7 (below_step hb8 (below_step hb9 hb10)))) hg (fun g hg => by have := hA2 g hg; omega))
      have o7 := own_rd (own_keep (own_below own7 (below_step hb8 (below_step hb9 hb10))) hg (fun g hg => by have := hA2 g hg; omega))
      have o8 := own_rd (own_keep (own_below own8 (below_step hb9 hb10)) hg (fun g hg => by have := hA2 g hg; omega))
      obtain ⟨A9, c9, rfl, hc9, _, r9⟩ := ((own9.below hb10).kept hg (fun g hg => by have := hA2 g hg; omega)).rd
      obtain ⟨A10, c10, rfl, hc10, _, r10⟩ := (own10.kept hg (fun g hg => by have := hA2 g hg; omega)).rd
      have hb11 : Below w.heap.size w wr := b10.grown hg b10.size (by intro k hk; have := (own_lt hin2 hk).1; have := hb1.size; omega)
      have v3 := conv_bs (P := Try.prog) Try.underlying22 Try.underlying5 Try.underlying9 o3 c3
      have v4 := conv_bs (P := Try.prog) Try.underlying22 Try.underlying5 Try.underlying9 o4 c4
      have v5 := conv_bs (P := Try.prog) Try.underlying22 Try.underlying5 Try.underlying9 o5 c5
      have v6 := conv_bs (P := Try.prog) Try.underlying22 Try.underlying5 Try.underlying9 o6 c6
      have v7 := conv_bs (P := Try.prog) Try.underlying22 Try.underlying5 Try.underlying9 o7 c7
      have v8 := conv_bs (P := Try.prog) Try.underlying22 Try.underlying5 Try.underlying9 o8 c8
      go_wp2_with fail
      refine (same_any r9 r10 hrl hrl).mono ?_
      rintro e w11 ⟨rfl, nd, hw11⟩
      have hb12 : Below w.heap.size w w11 := by subst hw11; exact below_drewN hb11 nd
      clear hw11
      have hq : decide (t4 = t4) = true := by simp
      go_wp2_with fail
      go_ret
      exact ⟨rfl, hb12⟩
end Go.Proofs.Ytahehikpbhneeaa
