import Derived.Test.YtlekoeddcjjjdaaJourZ
/-! the ref's journal: Undo -/
namespace Go.Proofs.Ytlekoeddcjjjdaa
open Go.RowKit Go.Cov Go.Lib
variable {Bk : Nat → Prop}
set_option maxRecDepth 100000 in
set_option maxHeartbeats 1600000 in
theorem rjundo_no {w : World} {base db : Nat} {hist : List PL} {L : PL} (h : RJ Bk w base db (hist ++ [L])) (hn : hist.length ≤ 100000) (k : Int) (hk : k < 0 ∨ (hist.length : Int) < k) :
    Calls Try.prog 17 #[.pointer (some ⟨db, 0, none⟩), .int .i64 k] w fun e w' => e = .returned (.int .i64 1) ∧ w' = w := by
  have KM := hid (rjmark_any h (by simp) (by simp; omega))
  rw [show (hist ++ [L]).length - 1 = hist.length by simp] at KM
  clear h
  by_cases h0 : k < 0
  · clear hk
    go_enter Try.func17, Try.ntmps17
    go_wp2_with fail
    go_ret
    exact ⟨rfl, rfl⟩
  · have h1 : (hist.length : Int) < k := by omega
    clear hk
    go_enter Try.func17, Try.ntmps17
    go_wp2_with fail
    refine KM.out.mono ?_
    rintro e w2 ⟨rfl, rfl⟩
    go_wp2_with fail
    go_ret
    exact ⟨rfl, rfl⟩
theorem made1P (w : World) (t : TypeId) : (w.alloc (.cells #[] t)).ownsRow w.heap.size t 1 (.slice (some ⟨w.heap.size, 0, none⟩) 0 0) 0 [] := World.ownsRow_made w #[] 0 (Nat.le_refl _) (by simp [maxLen]) rfl
theorem rj_cut {w w7 : World} {base db : Nat} {Ls Ls' : List PL} {dv v7 : Value} {ss ss' : List SlP}
    (hB : ∀ k, w.heap.size ≤ k → Bk k) (c0 : w.cell? ⟨db, 0, none⟩ = some dv) (f0 : w.frozen? ⟨db, 0, none⟩ = false) (h5 : base ≤ db ∧ db < w.heap.size ∧ dv.ownBlock ≠ some db ∧ Bk db ∧ ∀ k, dv.ownBlock = some k → Bk k)
    (h7 : ∀ (i : Nat) (L : PL), Ls[i]? = some L → ∃ s : SlP, ss[i]? = some s ∧ GSt Bk w db dv s.A s.c s.xs L) (hb : Below w.heap.size w w7) (hnew : ∀ kk, v7.ownBlock = some kk → w.heap.size ≤ kk)
    (own7 : w7.ownsRow base 22 1 v7 Ls'.length (ss'.map SlP.val)) (hsub : ∀ (i : Nat) (L : PL), Ls'[i]? = some L → Ls[i]? = some L ∧ ss'[i]? = ss[i]?) :
    RJ Bk (w7.setCell ⟨db, 0, none⟩ v7) base db Ls' ∧ Moves w (w7.setCell ⟨db, 0, none⟩ v7) db := by
  obtain ⟨h3, h4, h5, h5a, h5b⟩ := h5
  have hs := hb.size
  have hne : v7.ownBlock ≠ some db := fun e => by have := hnew db e; omega
  have hsz : (w7.setCell ⟨db, 0, none⟩ v7).heap.size = w7.heap.size := by simp
  have hkeep : ∀ k, Gd Bk w db dv k → (w7.setCell ⟨db, 0, none⟩ v7).heap[k]? = w.heap[k]? ∧ Gd Bk (w7.setCell ⟨db, 0, none⟩ v7) db v7 k := fun k hk =>
    ⟨by rw [heap_set hk.2.1]; exact hb.block k hk.1, by rw [hsz]; exact Nat.lt_of_lt_of_le hk.1 hs, hk.2.1, fun e => by have := hnew k e; have := hk.1; omega, hk.2.2.2⟩
  have hcell : (w7.setCell ⟨db, 0, none⟩ v7).cell? ⟨db, 0, none⟩ = some v7 := World.cell?_setCell_same' _ _ _ (by rw [cell_on hb c0]; rfl)
  refine ⟨⟨v7, ss', ⟨hcell, ?_⟩, ⟨h3, by rw [hsz]; omega, hne, h5a, fun k hk => hB k (hnew k hk)⟩, own_heap own7 (fun k hk => heap_set (fun e => hne (by rw [hk, e]))), fun i L hi => ?_⟩, fun dv0 h0 => ?_⟩
  · rw [World.frozen?_setCell]; exact froz_on hb h4 f0
  · obtain ⟨h1, h2⟩ := hsub i L hi
    obtain ⟨s, hss, hgs⟩ := h7 i L h1
    exact ⟨s, h2.trans hss, hgs.keep hkeep⟩
  · exact ⟨v7, hcell, .inr hnew, fun k hk h1 _ => by rw [heap_set h1]; exact hb.block k hk⟩
end Go.Proofs.Ytlekoeddcjjjdaa
