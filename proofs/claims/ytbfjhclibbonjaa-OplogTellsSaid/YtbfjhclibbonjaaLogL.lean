import Derived.Test.YtbfjhclibbonjaaLogK
namespace Go.Proofs.Ytbfjhclibbonjaa
open Go.RowKit Go.Cov
theorem made_own (w : World) (t : TypeId) : (w.alloc (.cells #[] t)).ownsRow w.heap.size t 3 (.slice (some ⟨w.heap.size, 0, none⟩) 0 0) 0 [] := World.ownsRow_made w #[] 0 (Nat.le_refl _) (by simp [maxLen]) rfl
theorem made_off {w0 : World} {xs : List En} (h : ∀ a ∈ xs, ∀ p ∈ enEl.cons a, Sl w0 p.1 p.2) {W : World} (hb : Below w0.heap.size w0 W) {v : Value} (hv : ∀ k, v.ownBlock = some k → w0.heap.size ≤ k) : Off enEl W v xs := Off.old h hb hv
set_option maxRecDepth 100000 in
set_option maxHeartbeats 1000000 in
theorem rfrom_any {s : Int} {A : Option Addr} {c : Nat} {xs : List En} {L : EL} {w : World} (h : Lg w A c xs L) (n : Int) :
    Calls Try.prog 17 #[.agg #[.int .i64 s, .slice A xs.length c], .int .i64 n] w fun e w' => ∃ C q ys, e = .returned (.tuple #[.slice C (ys : List En).length q, .bool (atL s L n).isSome]) ∧ Lg w' C q ys (fromL s L n) ∧ Below w.heap.size w w' := by
  have hb1 := below_alloc w (.cells #[.int .i64 s, .slice A xs.length c] 26)
  have K := hid (within_any (s := s) (h.below hb1) n)
  have U := hid (Var2.new w (.int .i64 s) (.slice A xs.length c) 26)
  unfold fromL
  rcases atL_cases s L n with ha | ⟨i, ha, hn, hi, hr⟩
  · rw [ha] at K ⊢
    clear ha
    go_enter Try.func17, Try.ntmps17
    go_wp2_with fail
    refine K.out.mono ?_
    rintro e w2 ⟨rfl, hb3⟩
    go_wp2_with fail
    go_ret2
    exact ⟨none, 0, [], rfl, lg_nil _, below_step hb1 hb3⟩
  · rw [ha] at K ⊢
    have hxl := h.len
    obtain ⟨_, r2, r3, _⟩ := rightL_iff.1 hr
    have hix : i ≤ xs.length := by omega
    have hz : xs.length ≤ 64 := by omega
    have hcap := h.2.1
    have e0 : IntKind.i64.wrap (n - s) = (i : Int) := (wrap_of _ (by omega) (by omega)).trans (by omega)
    have sl2 := fun W => run_slice_from (P := Try.prog) Try.underlying24 infoE A xs.length c i .i64 (i : Int) (by omega) (by omega) W
    have HD := hid (show (xs.drop i).length = xs.length - i by simp)
    have E2 := hid (fun W (hW : Below w.heap.size w W) => (h.below hW).1.cut i h.2.1)
    have HM := hid (show (xs.drop i).map En.data = L.drop i by rw [List.map_drop, h.2.2])
    have HOLD := hid (fun a (ha : a ∈ xs.drop i) => h.1.2 a (List.mem_of_mem_drop ha))
    generalize hA2 : cutA A c i 3 = A2 at sl2
    rw [show enEl.sz = 3 from rfl, hA2] at E2
    clear hA2 ha hr hn hxl hi r2 r3 h
    go_enter Try.func17, Try.ntmps17
    go_wp2_with fail
    refine K.out.mono ?_
    rintro e w2 ⟨rfl, hb3⟩
    obtain ⟨u0, u1, _⟩ := U.out.on hb3
    have b3 := below_step hb1 hb3
    have hmo := made_own w2 32
    have ba := below_alloc w2 (.cells #[] 32)
    have u0 := cell_on ba u0
    have u1 := cell_on ba u1
    have b4 := below_step b3 ba
    have hEd := E2.out _ b4
    have hoff := made_off HOLD.out b4 (v := .slice (some ⟨w2.heap.size, 0, none⟩) 0 0) (fun k hk => by simp [Value.ownBlock] at hk; have := b3.size; omega)
    obtain ⟨us, hus⟩ : ∃ us, us = xs.drop i := ⟨_, rfl⟩
    have HM2 := hid HM.out
    have HD2 := hid HD.out
    rw [← hus] at hEd hoff HM2 HD2
    clear hus HM HD E2
    have hu64 : us.length ≤ 64 := by have := HD2.out; omega
    go_wp2_with (at_builtin; refine wpList_app rfl (.tmp 12) (.tmp 19) 24 rfl w2.heap.size 32 Try.underlying24 infoE rfl (by decide) (.slice (some ⟨w2.heap.size, 0, none⟩) 0 0) 0 [] rfl hmo A2 (xs.length - i) (c - i) (us.flatMap enEl.cells) rfl (by rw [enEl.flat_len, HD2.out]; rfl) hEd.1 (enEl.flat_one _) (by omega) (by omega) (by simp) ?_; intro v5 w5 hin5 hg5 hat5)
    have hb5 : Below w2.heap.size w2 w5 := ba.grown hg5 (by simp) (by intro k hk; simp [Value.ownBlock] at hk; omega)
    rw [show (0 : Nat) + (xs.length - i) = 0 + us.length by rw [HD2.out]] at hin5
    have hnew := OwnEls.app (xs := []) (ys := us) (fun a ha => by simp at ha) hoff hin5 hg5 hat5
    obtain ⟨C, q, rfl, hl5⟩ := own_lg hnew
    rw [List.nil_append, HM2.out] at hl5
    go_wp2_with fail
    go_ret2
    exact ⟨C, q, us, rfl, hl5, below_step b3 hb5⟩
end Go.Proofs.Ytbfjhclibbonjaa
