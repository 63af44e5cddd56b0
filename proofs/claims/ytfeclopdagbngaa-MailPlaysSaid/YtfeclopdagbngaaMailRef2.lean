import Derived.Test.YtfeclopdagbngaaMailRef
namespace Go.Proofs.Ytfeclopdagbngaa
open Go.RowKit Go.Conc Go.Cov

theorem set_grown (w : World) (g o : Nat) (u : Value) : w.grownBy (w.setCell ⟨g, o, none⟩ u) (some g) := ⟨rfl, rfl, rfl, by simp [World.setCell], fun k _ hne => Below.heap_setCell w _ _ k (fun hh => hne (by rw [hh]))⟩
theorem rtake_nil {W : World} {B g room : Nat} {v : Value} (h : RefB W B g room v []) :
    Calls Try.prog 14 #[.pointer (some ⟨g, 0, none⟩)] W fun e W' => e = .returned (.tuple #[.int .i64 0, .bool false]) ∧ W = W' := by
  have c0 := h.c0
  obtain ⟨A, c, rfl, _⟩ := own_shape h.own
  go_enter Try.func14, Try.ntmps14
  go_wp2_with fail
  go_ret2
  exact ⟨rfl, rfl⟩
theorem rtake_cons {W : World} {B g room : Nat} {v : Value} {x : Int} {l : List Int} (h : RefB W B g room v (x :: l)) (hl : l.length ≤ 1024) :
    Calls Try.prog 14 #[.pointer (some ⟨g, 0, none⟩)] W fun e W' => e = .returned (.tuple #[.int .i64 x, .bool true]) ∧ ∃ v', RefB W' B g room v' l ∧ Below g W W' := by
  have c0 := h.c0
  have f0 := h.f0
  have hlt := h.lt
  obtain ⟨A, c, rfl, hc1, hc2, hc3⟩ := own_shape h.own
  have hrd := own_rd h.own
  obtain ⟨ad, rfl, hcx⟩ := hrd 0 (.int .i64 x) rfl
  have hadd0 : ad.add 0 = ad := by simp [Addr.add]
  rw [hadd0] at hcx
  have hlen0 : ((l.length : Int) + 1 == 0) = false := by simp; omega
  have hcap : l.length + 1 ≤ c := by simpa using hc1
  have hrd1 : Rd W (cutA (some ad) c 1 1) (iv l) := by
    have := hrd.cutA 1 1 (c := c) (by show (List.map _ (x :: l)).length ≤ c * 1; rw [List.length_map, List.length_cons]; omega)
    simpa [iv] using this
  have hsl := fun w => run_slice_from (P := Try.prog) Try.underlying41 info2 (some ad) (l.length + 1) c 1 .i64 1 rfl (by omega) w
  generalize cutA (some ad) c 1 1 = A1 at hrd1 hsl
  rw [show l.length + 1 - 1 = l.length by omega] at hsl
  clear hadd0 hc1 hc2 hc3
  have hgs : g < W.heap.size := by omega
  go_enter Try.func14, Try.ntmps14
  go_wp2_with (at_builtin; go_loud (refine wpList_app rfl (.tmp 18) (.tmp 23) 41 rfl B 2 Try.underlying41 info2 rfl (by decide) (.slice (some ⟨W.heap.size, 0, none⟩) 0 0) 0 [] rfl (World.ownsRow_made W #[] 0 hlt.2 (by simp [maxLen]) rfl) _ l.length (c - 1) (iv l) rfl (by simp [iv]) (hrd1.alloc _) (by intro u hu; obtain ⟨z, _, rfl⟩ := List.mem_map.1 hu; rfl) (by omega) (by omega) (by (try simp); omega) ?_; intro v4 w4 hin4 hg4 hat4; simp only [Nat.zero_add, List.nil_append] at hin4; obtain ⟨A4, c5, hv4, _⟩ := own_shape hin4; subst hv4; have hb4 : w4.heap[g]? = some (.cells #[.slice (some ad) (l.length + 1) c, .int .i64 room] 47 (0, 0)) := (hg4.block g (by (try simp); omega) (by (try simp [Value.ownBlock]); omega)).trans ((Below.heap_alloc _ _ g (by (try simp); omega)).trans h.blk); have c4 : w4.cell? ⟨g, 0, none⟩ = some (.slice (some ad) (l.length + 1) c) := by { rw [cell_of_row w4 g 0 _ 47 (0, 0) hb4]; rfl }; have f4 : w4.frozen? ⟨g, 0, none⟩ = false := by { simp [World.frozen?, hb4] }))

  go_ret2
  have hs4 := hg4.size
  have hg4' : W.grownBy w4 none := ⟨hg4.os, hg4.tape, hg4.output, by simp at hs4; omega, fun k hk hne => (hg4.block k (by (try simp); omega) (by (try simp [Value.ownBlock]); omega)).trans (Below.heap_alloc W _ k hk)⟩
  have hst := set_grown w4 g 0 (.slice A4 l.length c5)
  refine ⟨rfl, .slice A4 l.length c5, ⟨?_, ?_, hlt.1, ?_⟩, ?_⟩
  · simp only [World.setCell, Array.getElem?_modify, hb4]
    simp
  · have := hin4.kept hst (.inr (fun hh => own_ne hin4 hlt.1 hh.symm))
    simpa [iv] using this
  · have := hst.size; simp at hs4; omega
  · exact (((Below.refl g W).grown hg4' (by omega) (by simp)).grown hst (by have := hg4'.size; omega) (by intro k hk; cases hk; omega))
theorem rall_any {W : World} {B g room : Nat} {v : Value} {l : List Int} (h : RefB W B g room v l) :
    Calls Try.prog 16 #[.pointer (some ⟨g, 0, none⟩)] W fun e W' => e = .returned v ∧ RefB W' B g room (.slice none 0 0) [] ∧ W.grownBy W' (some g) := by
  have c0 := h.c0
  have f0 := h.f0
  have hlt := h.lt
  obtain ⟨A, c, rfl, hc1, hc2, hc3⟩ := own_shape h.own
  go_enter Try.func16, Try.ntmps16
  go_wp2_with fail
  go_ret
  refine ⟨rfl, ⟨?_, World.ownsRow_nil _ _ _ _, hlt.1, ?_⟩, set_grown _ _ _ _⟩
  · have := h.blk
    simp only [World.setCell, Array.getElem?_modify, this]
    simp
  · have := (set_grown W g 0 (.slice none 0 0)).size; omega
theorem same_yes (A1 A2 : Option Addr) (c1 c2 : Nat) (l : List Int) (W : World) (h1 : Rd W A1 (iv l)) (h2 : Rd W A2 (iv l)) (hl : l.length ≤ 1024) :
    Calls Try.prog 17 #[.slice A1 l.length c1, .slice A2 l.length c2] W fun e W' => e = .returned (.bool true) ∧ ∃ n, W' = W.drewN n := by
  go_enter Try.func17, Try.ntmps17
  go_wp2_with fail
  go_loopw [5] (fun i W' => ∃ k q : Nat, k ≤ l.length ∧ i = .int .i64 k ∧ W' = W.drewN q) (fun i _ => l.length - (intOf i).toNat)
  case atStart => exact ⟨0, 0, Nat.zero_le _, rfl, rfl⟩
  case round =>
    obtain ⟨k, q, hk1, rfl, rfl⟩ := hrel
    by_cases hki : k < l.length
    · obtain ⟨ad1, rfl, hc1⟩ := h1 k (.int .i64 l[k]) (by simp [iv, hki])
      obtain ⟨ad2, rfl, hc2⟩ := h2 k (.int .i64 l[k]) (by simp [iv, hki])
      go_wp2_with fail
      go_quiet (fail)
      go_wp2_with fail
      go_roundw
      case rel => exact ⟨k + 1, _, by omega, by go_num, rfl⟩
      case measure => simp [intOf]; omega
    · go_wp2_with fail
      go_ret
      exact ⟨rfl, _, rfl⟩
end Go.Proofs.Ytfeclopdagbngaa
