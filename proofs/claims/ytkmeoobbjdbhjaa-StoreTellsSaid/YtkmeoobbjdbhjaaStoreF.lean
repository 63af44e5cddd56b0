import Derived.Test.YtkmeoobbjdbhjaaStoreE
import Derived.Shelf.Spec.SlicesGrow
namespace Go.Proofs.Ytkmeoobbjdbhjaa
open Go.Shelf
def growP_ren : Ren := ⟨fun | 4 => 40 | n => n, fun | 22 => 22 | 25 => 42 | 3 => 3 | 4 => 4 | 9 => 9 | 20 => 20 | 0 => 0 | n => n, fun n => n⟩
set_option maxRecDepth 100000 in
theorem growP : Lays8.n4 Try.prog growP_ren where
  mixed := by kernel_rfl
  f4 := ⟨Try.f40.name, by decide, Try.func40.trans (congrArg some (by kernel_rfl))⟩
  t0 := Try.underlying0
  a0 := Try.isAgg0
  z0 := Try.sizeOf0
  v0 := Try.zeroValue0
  t3 := Try.underlying3
  a3 := Try.isAgg3
  z3 := Try.sizeOf3
  v3 := Try.zeroValue3
  t4 := Try.underlying4
  a4 := Try.isAgg4
  z4 := Try.sizeOf4
  v4 := Try.zeroValue4
  t9 := Try.underlying9
  a9 := Try.isAgg9
  z9 := Try.sizeOf9
  v9 := Try.zeroValue9
  t20 := Try.underlying20
  a20 := Try.isAgg20
  z20 := Try.sizeOf20
  v20 := Try.zeroValue20
  t22 := Try.underlying22
  a22 := Try.isAgg22
  z22 := Try.sizeOf22
  v22 := Try.zeroValue22
open Go.RowKit Go.Cov Go.Lib
theorem infoP : (Try.prog.info? 42).map (fun i => (i.zero, i.size, i.bytes)) = some (some (.agg #[.slice none 0 0, .slice none 0 0]), 2, 48) := by kernel_rfl
theorem grow_nil (n : Nat) (w : World) (hn : n ≤ 2000000000000) :
    Calls Try.prog 40 #[.slice none 0 0, .int .i64 n] w fun e w' => ∃ v, e = .returned v ∧ w'.ownsRow w.heap.size 42 2 v 0 [] ∧ Below w.heap.size w w' := by
  rcases Nat.eq_zero_or_pos n with h0 | h0
  · subst h0
    refine (Any8.slices_Grow_room growP none 0 0 0 w (by omega) (by omega) (by omega) (by omega)).mono ?_
    rintro e w2 ⟨rfl, rfl⟩
    exact ⟨_, rfl, World.ownsRow_nil _ _ _ _, Below.refl _ _⟩
  · obtain ⟨i0, hi, hz0, hz1, hz2⟩ := info_parts infoP
    refine (Any8.slices_Grow_grow growP i0 _ hi hz0 (by omega) none 0 0 n [] w (by omega) (by omega) (by rw [hz2]; omega) (by omega) (by simp) (fun _ => rfl) (fun a h => by cases h)).mono ?_
    rintro e w2 ⟨rfl, rfl⟩
    refine ⟨_, rfl, ?_, (Below.refl _ _).drew.trans (below_alloc w.drew _)⟩
    refine World.ownsRow_made w.drew _ _ (Nat.le_refl _) (grownCap_le_maxLen _ _ _ _ (by unfold maxLen; omega)) ?_
    have hge := grownCap_ge w (0 + n) 0 42
    have hg2 : grownCap w (0 + n) 0 (growP_ren.t 25) = grownCap w (0 + n) 0 42 := rfl
    simp only [Array.size_append, size_zeroCells]
    rw [hg2, show (Value.agg #[.slice none 0 0, .slice none 0 0]).cells.size = 2 from rfl]
    generalize grownCap w (0 + n) 0 42 = G at hge
    simp
    omega
/-- slices of pairs, one behind the other -/
abbrev Seg := Option Addr × Nat × List Pr
def segV (s : Seg) : Value := .slice s.1 s.2.2.length s.2.1
def segAll (l : List Seg) : List Pr := l.flatMap (·.2.2)
theorem segAll_step {l : List Seg} {k : Nat} (h : k < l.length) : segAll (l.take (k + 1)) = segAll (l.take k) ++ l[k].2.2 := by
  unfold segAll
  rw [List.take_add_one, List.getElem?_eq_getElem h, List.flatMap_append]
  simp
theorem segAll_le (l : List Seg) (k : Nat) : (segAll (l.take k)).length ≤ (segAll l).length := by
  unfold segAll
  conv => rhs; rw [← List.take_append_drop k l, List.flatMap_append, List.length_append]
  omega
set_option maxRecDepth 100000 in
set_option maxHeartbeats 1000000 in
theorem concat_any {T : Option Addr} {c : Nat} {l : List Seg} {w : World} (hT : Rd w T (l.map segV)) (hE : ∀ s ∈ l, Els prEl w s.1 s.2.2) (hl : l.length ≤ 1000) (hn : (segAll l).length ≤ 2000000000000) :
    Calls Try.prog 29 #[.slice T l.length c] w fun e w' => ∃ v, e = .returned v ∧ OwnEls prEl w' w.heap.size 42 v (segAll l) ∧ Below w.heap.size w w' := by
  have HE := hid hE
  clear hE
  have LE := fun k => segAll_le l k
  go_enter Try.func29, Try.ntmps29
  go_wp2_with fail
  go_loopw [3, 11] (fun s i W => ∃ k : Nat, k ≤ l.length ∧ i = .int .i64 k ∧ s = .int .i64 ((segAll (l.take k)).length : Nat) ∧ W = w) (fun _ i _ => l.length - (RowKit.intOf i).toNat)
  case atStart => exact ⟨0, by omega, rfl, by simp [segAll], rfl⟩
  case round =>
    obtain ⟨k, hk, rfl, rfl, hW⟩ := hrel
    have hW := hW.symm
    subst hW
    by_cases hlt : k < l.length
    · obtain ⟨ad, rfl, hc⟩ := hT k (segV l[k]) (by rw [List.getElem?_map, List.getElem?_eq_getElem hlt]; rfl)
      have hst := congrArg List.length (segAll_step hlt)
      rw [List.length_append] at hst
      have l1 := LE k
      have l2 := LE (k + 1)
      generalize hs : l[k] = s at hc hst
      clear hs
      unfold segV at hc
      generalize (segAll (l.take k)).length = u at hst l1 ⊢
      generalize hu' : (segAll (l.take (k + 1))).length = u' at hst l2
      have HU := hid hu'
      clear hu'
      have i1 : (k : Int) < l.length := by omega
      have e1 : IntKind.i64.wrap ((u : Int) + s.2.2.length) = ((u' : Nat) : Int) := (wrap_of _ (by omega) (by omega)).trans (by omega)
      have i2 : ¬ ((u' : Nat) : Int) < 0 := by omega
      clear hst
      go_wp2_with fail
      go_roundw
      case rel => exact ⟨k + 1, by omega, by go_num, by rw [HU.out], trivial⟩
      case measure => simp [RowKit.intOf]; omega
    · obtain rfl : k = l.length := by omega
      rw [List.take_length]
      go_wp2_with fail
      refine (grow_nil _ _ hn).mono ?_
      rintro e w1 ⟨v1, rfl, own1, hb1⟩
      go_wp2_with fail
      go_loopw [6, 27] (fun v i W => ∃ k : Nat, k ≤ l.length ∧ i = .int .i64 k ∧ OwnEls prEl W w.heap.size 42 v (segAll (l.take k)) ∧ Below w.heap.size w W) (fun _ i _ => l.length - (RowKit.intOf i).toNat)
      case atStart => exact ⟨0, by omega, rfl, ⟨by have o : w1.ownsRow w.heap.size 42 prEl.sz v1 0 [] := own1; simpa [segAll] using o, fun a ha => by simp [segAll] at ha⟩, hb1⟩
      case round =>
        obtain ⟨k, hk, rfl, hown, hb⟩ := hrel
        by_cases hlt : k < l.length
        · obtain ⟨ad, rfl, hc⟩ := hT k (segV l[k]) (by rw [List.getElem?_map, List.getElem?_eq_getElem hlt]; rfl)
          have hEk := HE.out l[k] (List.getElem_mem hlt)
          have hst := segAll_step hlt
          have l2 := LE (k + 1)
          rw [hst, List.length_append] at l2
          have HST := hid hst
          clear hst
          generalize l[k] = s at hc hEk l2 HST
          unfold segV at hc
          have hc := cell_on hb hc
          have i1 : (k : Int) < l.length := by omega
          have hoff := Off.old (T := prEl) (xs := s.2.2) (fun a ha p hp => hEk.2 a ha p hp) hb (fun k hk => (hown.lt hk).1)
          go_wp2_with (at_builtin; refine wpList_app rfl (.tmp 31) (.tmp 32) 22 rfl w.heap.size 42 Try.underlying22 infoP rfl (by decide) _ _ _ rfl hown.1 s.1 s.2.2.length s.2.1 (s.2.2.flatMap prEl.cells) rfl (prEl.flat_len _) (hEk.below hb).1 (prEl.flat_one _) (by omega) (by omega) hb.size ?_; intro v3 w3 hin3 hg3 hat3; have hb3 : Below w.heap.size w w3 := hb.grown hg3 hb.size (fun k hk => (hown.lt hk).1))
          go_roundw
          case rel => exact ⟨k + 1, by omega, by go_num, by rw [HST.out]; exact OwnEls.app hown.2 hoff hin3 hg3 hat3, hb3⟩
          case measure => simp [RowKit.intOf]; omega
        · obtain rfl : k = l.length := by omega
          rw [List.take_length] at hown
          go_wp2_with fail
          go_ret
          exact ⟨_, rfl, hown, hb⟩
end Go.Proofs.Ytkmeoobbjdbhjaa
