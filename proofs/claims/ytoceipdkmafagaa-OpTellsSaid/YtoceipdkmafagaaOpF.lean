import Derived.Test.YtoceipdkmafagaaOpE
import Derived.Test.YtoceipdkmafagaaPlain1
/-! op: the writer -/
namespace Go.Proofs.Ytoceipdkmafagaa
open Go.RowKit Go.Cov
/-- numbers' bytes -/
def nsB (ns : List Int) : List UInt8 := ns.flatMap (be 8)
theorem nsB_len (ns : List Int) : (nsB ns).length = 8 * ns.length := by
  induction ns with
  | nil => rfl
  | cons n ns ih => unfold nsB at ih ⊢; rw [List.flatMap_cons, List.length_append, ih, be_length, List.length_cons]; omega
theorem nsB_step (ns : List Int) (k : Nat) (hk : k < ns.length) : nsB (ns.take (k + 1)) = nsB (ns.take k) ++ be 8 ns[k] := by
  unfold nsB; rw [List.take_succ_eq_append_getElem hk, List.flatMap_append]; simp [List.flatMap_cons]
set_option maxHeartbeats 3200000 in
theorem nums_any {w : World} {wb : Nat} {v : Value} {l : List UInt8} (hW : Wt 5 w wb v l) {A : Option Addr} {c : Nat} {ns : List Int} (hr : Rd w A (ns.map (.int .i64))) (hA : ApaW wb v A) (hl : l.length + 8 * ns.length ≤ 1000000000000) :
    Calls Try.prog 23 #[.pointer (some ⟨wb, 0, none⟩), .slice A ns.length c] w fun e w' => ∃ r v', e = .returned r ∧ Wt 5 w' wb v' (l ++ nsB ns) ∧ Tw wb v w v' w' := by
  go_enter Try.func23, Try.ntmps23
  go_wp2_with fail
  go_loopw [8] (fun i W => ∃ (k : Nat) (vk : Value), k ≤ ns.length ∧ i = .int .i64 k ∧ Wt 5 W wb vk (l ++ nsB (ns.take k)) ∧ Tw wb v w vk W) (fun i _ => ns.length - (RowKit.intOf i).toNat)
  case atStart => exact ⟨0, v, by omega, rfl, by simpa [nsB] using hW, Tw.refl _ _ _⟩
  case round =>
    obtain ⟨k, vk, hk, rfl, hWk, hT⟩ := hrel
    by_cases hlt : k < ns.length
    · have i1 : (k : Int) < ns.length := by omega
      obtain ⟨ad, rfl, x0⟩ := (hr.tw hA hT) k (.int .i64 ns[k]) (by simp [hlt])
      obtain ⟨lk, hlk⟩ : ∃ lk, lk = l ++ nsB (ns.take k) := ⟨_, rfl⟩
      have hlen : lk.length ≤ 1000000000000 := by rw [hlk, List.length_append, nsB_len, List.length_take]; omega
      have HST : Hid (lk ++ be 8 ns[k] = l ++ nsB (ns.take (k + 1))) := by rw [hlk, nsB_step ns k hlt, List.append_assoc]; exact hid rfl
      rw [← hlk] at hWk
      clear hlk
      go_upto_region 3 with fail
      have bcur := (Below.refl wr.heap.size wr).drew
      have C0 := hWk.cell
      have F0 := hWk.froz
      refine wp_region_noPanic ?_
      refine wp_region_held_drew (S := (fun W => Wt 5 W wb vk lk ∨ True)) (by kernel_rfl) ?_ (fun hHeld => ?_)
      · exact Or.inr trivial
      refine wpAnyH_take (i := 0) (oi := ?oi1) (v := ?v1) ?hi1 (by kernel_rfl) (by kernel_rfl) (by kernel_rfl) ?hQ1 ?hy1 (by assumption) ?hrest1
      case hi1 => (simp only [List.getElem?_toArray, List.getElem?_cons_zero]; try rfl)
      case hQ1 => exact fun _ _ _ h => h
      case hy1 =>
        refine Or.inl ⟨by rfl, ?_⟩
        (intro wq hSw; (try dsimp only at hSw); go_simp; try with_reducible rfl)
      (try simp only [Act.put, List.setIfInBounds_toArray, List.set_cons_zero, List.set_cons_succ])
      refine wpAnyH_take (i := 1) (oi := ?oi2) (v := ?v2) ?hi2 (by kernel_rfl) (by kernel_rfl) (by kernel_rfl) ?hQ2 ?hy2 (by assumption) ?hrest2
      case hi2 => (simp only [List.getElem?_toArray, List.getElem?_cons_succ, List.getElem?_cons_zero]; try rfl)
      case hQ2 => exact fun _ _ _ h => h
      case hy2 =>
        refine Or.inl ⟨by rfl, ?_⟩
        (intro wq hSw; (try dsimp only at hSw); go_simp; try with_reducible rfl)
      (try simp only [Act.put, List.setIfInBounds_toArray, List.set_cons_zero, List.set_cons_succ])
      refine wpAnyH_take (i := 2) (oi := ?oi3) (v := ?v3) ?hi3 (by kernel_rfl) (by kernel_rfl) (by kernel_rfl) ?hQ3 ?hy3 (by assumption) ?hrest3
      case hi3 => (simp only [List.getElem?_toArray, List.getElem?_cons_succ, List.getElem?_cons_zero]; try rfl)
      case hQ3 => exact fun _ _ _ h => h
      case hy3 =>
        refine Or.inl ⟨by rfl, ?_⟩
        (intro wq hSw; (try dsimp only at hSw); go_simp; try with_reducible rfl)
      (try simp only [Act.put, List.setIfInBounds_toArray, List.set_cons_zero, List.set_cons_succ])
      refine wpAnyH_take (i := 3) (oi := ?oi4) (v := ?v4) ?hi4 (by kernel_rfl) (by kernel_rfl) (by kernel_rfl) ?hQ4 ?hy4 (by assumption) ?hrest4
      case hi4 => (simp only [List.getElem?_toArray, List.getElem?_cons_succ, List.getElem?_cons_zero]; try rfl)
      case hQ4 => exact fun _ _ _ h => h
      case hy4 =>
        refine Or.inl ⟨by rfl, ?_⟩
        (intro wq hSw; (try dsimp only at hSw); go_simp; try with_reducible rfl)
      (try simp only [Act.put, List.setIfInBounds_toArray, List.set_cons_zero, List.set_cons_succ])
      refine wpAnyH_take (i := 5) (oi := ?oi5) (v := ?v5) ?hi5 (by kernel_rfl) (by kernel_rfl) (by kernel_rfl) ?hQ5 ?hy5 (by assumption) ?hrest5
      case hi5 => (simp only [List.getElem?_toArray, List.getElem?_cons_succ, List.getElem?_cons_zero]; try rfl)
      case hQ5 => exact fun _ _ _ h => h
      case hy5 =>
        refine Or.inl ⟨by rfl, ?_⟩
        (intro wq hSw; (try dsimp only at hSw); go_simp; try with_reducible rfl)
      (try simp only [Act.put, List.setIfInBounds_toArray, List.set_cons_zero, List.set_cons_succ])
      refine wpAnyH_ready (rs := [4, 6]) (by kernel_rfl) (by simp) ?_
      refine AllReadyH.cons (o := ?oi6) ?hi6 (fun K hK => ?hstep6) ?hmore6
      case hi6 => (simp only [List.getElem?_toArray, List.getElem?_cons_succ, List.getElem?_cons_zero]; try rfl)
      case hstep6 =>
        go_simp
        (skip)
        refine hK.out _ _ ?_ (fun hHeld => ?_)
        · exact Or.inr trivial
        clear hK K
        (try simp only [Act.put, List.setIfInBounds_toArray, List.set_cons_zero, List.set_cons_succ])
        refine wpAnyH_ready (rs := [6]) (by kernel_rfl) (by simp) ?_
        refine AllReadyH.cons (o := ?oi7) ?hi7 (fun K hK => ?hstep7) AllReadyH.nil
        case hi7 => (simp only [List.getElem?_toArray, List.getElem?_cons_succ, List.getElem?_cons_zero]; try rfl)
        go_simp
        (refine (putnum_any ns[k] _).mono ?_; rintro e wx ⟨vx, rfl, ownx, hbx⟩; have bcur := below_step bcur hbx; have hWx := hWk.on bcur; have C1 := hWx.cell; have F1 := hWx.froz)
        refine hK.out _ _ ?_ (fun hHeld => ?_)
        · exact Or.inr trivial
        clear hK K
        (try simp only [Act.put, List.setIfInBounds_toArray, List.set_cons_zero, List.set_cons_succ])
        refine wpAnyH_ready (rs := [7]) (by kernel_rfl) (by simp) ?_
        refine AllReadyH.cons (o := ?oi8) ?hi8 (fun K hK => ?hstep8) AllReadyH.nil
        case hi8 => (simp only [List.getElem?_toArray, List.getElem?_cons_succ, List.getElem?_cons_zero]; try rfl)
        (obtain ⟨Ax, cx, rfl, _, _, _⟩ := own_shape ownx; refine oper_app2 rfl (.tmp 16) (.tmp 18) 22 rfl (wb + 1) 5 Try.underlying22 infoB rfl (by decide) vk lk.length _ rfl hWx.own Ax 8 cx ((be 8 ns[k]).map byt) rfl (by simp [be_length]) (own_rd ownx) (byt_one _) (by omega) (by omega) (by have := hWx.lt; omega) ?_; intro v7 w7 own7 hg7 hat7; obtain ⟨A7, c7, rfl, _⟩ := own_shape own7; obtain ⟨hW7, hT7⟩ := hWx.app (m := be 8 ns[k]) hg7 hat7 (by rw [be_length]; exact own7); obtain ⟨C7, F7⟩ := hWx.mid hg7)
        refine hK.out _ _ ?_ (fun hHeld => ?_)
        · exact Or.inr trivial
        clear hK K
        (try simp only [Act.put, List.setIfInBounds_toArray, List.set_cons_zero, List.set_cons_succ])
        refine wpAnyH_take (i := 8) (oi := ?oi9) (v := ?v9) ?hi9 (by kernel_rfl) (by kernel_rfl) (by kernel_rfl) ?hQ9 ?hy9 (by assumption) ?hrest9
        case hi9 => (simp only [List.getElem?_toArray, List.getElem?_cons_succ, List.getElem?_cons_zero]; try rfl)
        case hQ9 => exact fun _ _ _ h => h
        case hy9 =>
          refine Or.inl ⟨by rfl, ?_⟩
          (intro wq hSw; (try dsimp only at hSw); go_simp; try with_reducible rfl)
        (try simp only [Act.put, List.setIfInBounds_toArray, List.set_cons_zero, List.set_cons_succ])
        refine wpAnyH_take (i := 9) (oi := ?oi10) (v := ?v10) ?hi10 (by kernel_rfl) (by kernel_rfl) (by kernel_rfl) ?hQ10 ?hy10 (by assumption) ?hrest10
        case hi10 => (simp only [List.getElem?_toArray, List.getElem?_cons_succ, List.getElem?_cons_zero]; try rfl)
        case hQ10 => exact fun _ _ _ h => h
        case hy10 =>
          refine Or.inl ⟨by rfl, ?_⟩
          (intro wq hSw; (try dsimp only at hSw); go_simp; try with_reducible rfl)
        (try simp only [Act.put, List.setIfInBounds_toArray, List.set_cons_zero, List.set_cons_succ])
        refine wpAnyH_ready (rs := [10]) (by kernel_rfl) (by simp) ?_
        refine AllReadyH.cons (o := ?oi11) ?hi11 (fun K hK => ?hstep11) AllReadyH.nil
        case hi11 => (simp only [List.getElem?_toArray, List.getElem?_cons_succ, List.getElem?_cons_zero]; try rfl)
        go_simp
        (skip)
        refine hK.out _ _ ?_ (fun hHeld => ?_)
        · exact Or.inr trivial
        clear hK K
        (try simp only [Act.put, List.setIfInBounds_toArray, List.set_cons_zero, List.set_cons_succ])
        refine wpAnyH_done (by kernel_rfl) ?_ _
        refine NoPanic.normal ?_
        (rw [HST.out] at hW7; clear C0 F0 C1 F1 C7 F7; generalize World.setCell _ _ _ = w8 at hW7 hT7 ⊢; go_wp2_with fail; go_roundw; exact ⟨k + 1, _, by omega, by go_num, hW7, hT.trans ((Tw.of_below bcur).trans hT7)⟩; (simp [RowKit.intOf]; omega))
      refine AllReadyH.cons (o := ?oi12) ?hi12 (fun K hK => ?hstep12) ?hmore12
      case hi12 => (simp only [List.getElem?_toArray, List.getElem?_cons_succ, List.getElem?_cons_zero]; try rfl)
      case hstep12 =>
        go_simp
        (refine (putnum_any ns[k] _).mono ?_; rintro e wx ⟨vx, rfl, ownx, hbx⟩; have bcur := below_step bcur hbx; have hWx := hWk.on bcur; have C1 := hWx.cell; have F1 := hWx.froz)
        refine hK.out _ _ ?_ (fun hHeld => ?_)
        · exact Or.inr trivial
        clear hK K
        (try simp only [Act.put, List.setIfInBounds_toArray, List.set_cons_zero, List.set_cons_succ])
        refine wpAnyH_ready (rs := [4]) (by kernel_rfl) (by simp) ?_
        refine AllReadyH.cons (o := ?oi13) ?hi13 (fun K hK => ?hstep13) AllReadyH.nil
        case hi13 => (simp only [List.getElem?_toArray, List.getElem?_cons_succ, List.getElem?_cons_zero]; try rfl)
        go_simp
        (skip)
        refine hK.out _ _ ?_ (fun hHeld => ?_)
        · exact Or.inr trivial
        clear hK K
        (try simp only [Act.put, List.setIfInBounds_toArray, List.set_cons_zero, List.set_cons_succ])
        refine wpAnyH_ready (rs := [7]) (by kernel_rfl) (by simp) ?_
        refine AllReadyH.cons (o := ?oi14) ?hi14 (fun K hK => ?hstep14) AllReadyH.nil
        case hi14 => (simp only [List.getElem?_toArray, List.getElem?_cons_succ, List.getElem?_cons_zero]; try rfl)
        (obtain ⟨Ax, cx, rfl, _, _, _⟩ := own_shape ownx; refine oper_app2 rfl (.tmp 16) (.tmp 18) 22 rfl (wb + 1) 5 Try.underlying22 infoB rfl (by decide) vk lk.length _ rfl hWx.own Ax 8 cx ((be 8 ns[k]).map byt) rfl (by simp [be_length]) (own_rd ownx) (byt_one _) (by omega) (by omega) (by have := hWx.lt; omega) ?_; intro v7 w7 own7 hg7 hat7; obtain ⟨A7, c7, rfl, _⟩ := own_shape own7; obtain ⟨hW7, hT7⟩ := hWx.app (m := be 8 ns[k]) hg7 hat7 (by rw [be_length]; exact own7); obtain ⟨C7, F7⟩ := hWx.mid hg7)
        refine hK.out _ _ ?_ (fun hHeld => ?_)
        · exact Or.inr trivial
        clear hK K
        (try simp only [Act.put, List.setIfInBounds_toArray, List.set_cons_zero, List.set_cons_succ])
        refine wpAnyH_take (i := 8) (oi := ?oi15) (v := ?v15) ?hi15 (by kernel_rfl) (by kernel_rfl) (by kernel_rfl) ?hQ15 ?hy15 (by assumption) ?hrest15
        case hi15 => (simp only [List.getElem?_toArray, List.getElem?_cons_succ, List.getElem?_cons_zero]; try rfl)
        case hQ15 => exact fun _ _ _ h => h
        case hy15 =>
          refine Or.inl ⟨by rfl, ?_⟩
          (intro wq hSw; (try dsimp only at hSw); go_simp; try with_reducible rfl)
        (try simp only [Act.put, List.setIfInBounds_toArray, List.set_cons_zero, List.set_cons_succ])
        refine wpAnyH_take (i := 9) (oi := ?oi16) (v := ?v16) ?hi16 (by kernel_rfl) (by kernel_rfl) (by kernel_rfl) ?hQ16 ?hy16 (by assumption) ?hrest16
        case hi16 => (simp only [List.getElem?_toArray, List.getElem?_cons_succ, List.getElem?_cons_zero]; try rfl)
        case hQ16 => exact fun _ _ _ h => h
        case hy16 =>
          refine Or.inl ⟨by rfl, ?_⟩
          (intro wq hSw; (try dsimp only at hSw); go_simp; try with_reducible rfl)
        (try simp only [Act.put, List.setIfInBounds_toArray, List.set_cons_zero, List.set_cons_succ])
        refine wpAnyH_ready (rs := [10]) (by kernel_rfl) (by simp) ?_
        refine AllReadyH.cons (o := ?oi17) ?hi17 (fun K hK => ?hstep17) AllReadyH.nil
        case hi17 => (simp only [List.getElem?_toArray, List.getElem?_cons_succ, List.getElem?_cons_zero]; try rfl)
        go_simp
        (skip)
        refine hK.out _ _ ?_ (fun hHeld => ?_)
        · exact Or.inr trivial
        clear hK K
        (try simp only [Act.put, List.setIfInBounds_toArray, List.set_cons_zero, List.set_cons_succ])
        refine wpAnyH_done (by kernel_rfl) ?_ _
        refine NoPanic.normal ?_
        (rw [HST.out] at hW7; clear C0 F0 C1 F1 C7 F7; generalize World.setCell _ _ _ = w8 at hW7 hT7 ⊢; go_wp2_with fail; go_roundw; exact ⟨k + 1, _, by omega, by go_num, hW7, hT.trans ((Tw.of_below bcur).trans hT7)⟩; (simp [RowKit.intOf]; omega))
      exact AllReadyH.nil
    · obtain rfl : k = ns.length := by omega
      rw [List.take_length] at hWk
      go_wp2_with fail
      refine bodyPost_end (results_none rfl _ _ _) rfl ?_
      exact ⟨_, _, rfl, hWk, hT⟩
end Go.Proofs.Ytoceipdkmafagaa
