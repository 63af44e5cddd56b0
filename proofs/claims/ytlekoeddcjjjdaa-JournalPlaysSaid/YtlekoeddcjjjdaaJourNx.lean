import Derived.Test.YtlekoeddcjjjdaaJourNw
/-! the ref's journal: New -/
namespace Go.Proofs.Ytlekoeddcjjjdaa
open Go.RowKit Go.Cov Go.Lib
variable {Bk : Nat → Prop}
set_option maxRecDepth 100000 in
set_option maxHeartbeats 1600000 in
theorem rjnew_ok {w : World} (hB : ∀ k, w.heap.size ≤ k → Bk k) {A : Option Addr} {c : Nat} {xs : List Pr} {L : PL} (h : St w A c xs L) (hz : xs.length ≤ 1000000) (hr : rightP L = true) (hx : ∀ x ∈ xs, (x.k ≠ [] → ∀ ad, x.kA = some ad → Bk ad.block ∧ ad.block < w.heap.size) ∧ (x.v ≠ [] → ∀ ad, x.vA = some ad → Bk ad.block ∧ ad.block < w.heap.size)) :
    Calls Try.prog 10 #[.slice A xs.length c] w fun e w' => ∃ db, e = .returned (.pointer (some ⟨db, 0, none⟩)) ∧ RJ Bk w' w.heap.size db [L] ∧ Below w.heap.size w w' := by
  have K := hid (show Calls Try.prog 26 #[.slice A xs.length c] w fun e w' => e = .returned (.bool (rightP L)) ∧ Below w.heap.size w w' from by rw [← h.2.2]; exact rright_pairs h.1 (by omega))
  rw [hr] at K
  have OF := hid (fun W (hW : Below w.heap.size w W) (v : Value) (hv : ∀ kk, v.ownBlock = some kk → w.heap.size ≤ kk) (ys : List Pr) (hy : ∀ a ∈ ys, a ∈ xs) => Off.old (T := prEl) (xs := ys) (v := v) (fun a ha p hp => h.1.2 a (hy a ha) p hp) hW hv)
  have HX := hid hx
  have HBk := hid hB
  clear hr hx hB
  go_enter Try.func10, Try.ntmps10
  go_wp2_with fail
  refine K.out.mono ?_
  rintro e w2 ⟨rfl, hb2⟩
  clear K
  have ba := below_alloc w2 (.cells #[] 47)
  have b3 := below_step hb2 ba
  have hE := (h.below b3).1
  have hoff := OF.out _ b3 (.slice (some ⟨w2.heap.size, 0, none⟩) 0 0) (fun k hk => by simp [Value.ownBlock] at hk; have := hb2.size; omega) xs (fun a ha => ha)
  go_wp2_with (at_builtin; refine wpList_app rfl (.tmp 8) (.tmp 9) 22 rfl w2.heap.size 47 Try.underlying22 infoP rfl (by decide) (.slice (some ⟨w2.heap.size, 0, none⟩) 0 0) 0 [] rfl (madeP_own w2 47) A xs.length c (xs.flatMap prEl.cells) rfl (prEl.flat_len _) hE.1 (prEl.flat_one _) (by omega) (by omega) (by simp) ?_; intro v5 w5 hin5 hg5 hat5; have hb5 : Below w2.heap.size w2 w5 := ba.grown hg5 (by simp) (by intro k hk; simp [Value.ownBlock] at hk; omega); have hnew := OwnEls.app (xs := []) (ys := xs) (fun a ha => by simp at ha) hoff hin5 hg5 hat5; obtain ⟨C, q, hv5, hs5⟩ := own_st hnew; rw [List.nil_append] at hv5 hs5; subst hv5)
  go_ret
  have hn5 := newp_own (w := w2) hnew (Nat.le_refl _)
  have g2 := hb2.size
  have g5 := hb5.size
  have c1 := below_alloc w5 (.cells #[.slice C xs.length q] 22)
  have c2 := below_alloc (w5.alloc (.cells #[.slice C xs.length q] 22)) (.cells #[.slice (some ⟨w5.heap.size, 0, none⟩) 1 1] 57)
  have n1 : (w5.alloc (.cells #[.slice C xs.length q] 22)).heap.size = w5.heap.size + 1 := size_run
  have n2 : ((w5.alloc (.cells #[.slice C xs.length q] 22)).alloc (.cells #[.slice (some ⟨w5.heap.size, 0, none⟩) 1 1] 57)).heap.size = w5.heap.size + 1 + 1 := by rw [size_run, n1]
  have own1 : (w5.alloc (.cells #[.slice C xs.length q] 22)).ownsRow w.heap.size 22 1 (.slice (some ⟨w5.heap.size, 0, none⟩) 1 1) 1 [.slice C xs.length q] := ⟨rfl, .inr ⟨w5.heap.size, 1, #[.slice C xs.length q], rfl, by omega, heap_alloc_new w5 _, Nat.le_refl _, by simp [maxLen], rfl, rfl⟩⟩
  have hcell := box_cell (w5.alloc (.cells #[.slice C xs.length q] 22)) #[.slice (some ⟨w5.heap.size, 0, none⟩) 1 1] 57 0 _ rfl
  have hfroz := World.frozen?_alloc_new (w := w5.alloc (.cells #[.slice C xs.length q] 22)) #[.slice (some ⟨w5.heap.size, 0, none⟩) 1 1] 57 0
  rw [n1] at hcell hfroz
  have hb7 := below_step (below_step (below_step hb2 hb5) c1) c2
  have hst : St w5 C q xs L := by rw [← h.2.2]; exact hs5
  refine ⟨_, rfl, ⟨.slice (some ⟨w5.heap.size, 0, none⟩) 1 1, [⟨C, q, xs⟩], ⟨hcell, hfroz⟩, ⟨by omega, by rw [n2]; omega, fun e => by have := Option.some.inj e; dsimp only at this; omega, HBk.out _ (by omega), fun k e => by have := Option.some.inj e; dsimp only at this; exact HBk.out _ (by omega)⟩, own_below own1 c2, fun i M hi => ?_⟩, hb7⟩
  rcases i with _ | i
  · obtain rfl : L = M := Option.some.inj hi
    refine ⟨⟨C, q, xs⟩, rfl, (hst.below c1).below c2, fun ad e => ⟨by rw [n2]; have := hn5 ad e; omega, by have := hn5 ad e; omega, fun e2 => by have := Option.some.inj e2; dsimp only at this; have := hn5 ad e; omega, HBk.out _ (by have := hn5 ad e; omega)⟩, fun x hx => ⟨fun hl ad e => ?_, fun hl ad e => ?_⟩⟩
    · have := (HX.out x hx).1 hl ad e
      exact ⟨by rw [n2]; omega, by omega, fun e2 => by have := Option.some.inj e2; dsimp only at this; omega, this.1⟩
    · have := (HX.out x hx).2 hl ad e
      exact ⟨by rw [n2]; omega, by omega, fun e2 => by have := Option.some.inj e2; dsimp only at this; omega, this.1⟩
  · simp at hi
end Go.Proofs.Ytlekoeddcjjjdaa
