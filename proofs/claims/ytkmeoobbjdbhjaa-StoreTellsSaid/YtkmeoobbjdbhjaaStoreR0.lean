import Derived.Test.YtkmeoobbjdbhjaaStoreQ
namespace Go.Proofs.Ytkmeoobbjdbhjaa
open Go.RowKit Go.Cov Go.Lib
set_option maxRecDepth 100000 in
set_option maxHeartbeats 1000000 in
theorem rgetp_any {A B : Option Addr} {c d : Nat} {xs : List Pr} {m : List UInt8} {w : World} (h : Els prEl w A xs) (hz : xs.length ≤ 140737488351236) (hv : ∀ x ∈ xs, x.v.length ≤ 140737488351236) (g : Rd w B (m.map byt)) :
    Calls Try.prog 18 #[.slice A xs.length c, .slice B m.length d] w fun e w' => ∃ D k r, e = .returned (.tuple #[.slice D (r : List UInt8).length k, .bool (getP (xs.map Pr.data) m).isSome]) ∧ (getP (xs.map Pr.data) m).getD [] = r ∧ Rd w' D (r.map byt) ∧ (∀ ad, D = some ad → w.heap.size ≤ ad.block) ∧ Below w.heap.size w w' := by
  have K := hid (rfindp_any (c := c) (d := d) h hz g)
  rcases getP_ix xs m with ⟨h1, h2⟩ | ⟨i, hi, h1, h2⟩
  · rw [h1] at K
    rw [h2]
    clear h1 h2
    go_enter Try.func18, Try.ntmps18
    go_wp2_with fail
    refine K.out.mono ?_
    rintro e w2 ⟨rfl, hb2⟩
    go_wp2_with fail
    go_ret2
    exact ⟨none, 0, [], rfl, rfl, Rd.nil _ _, (fun ad hA => by cases hA), hb2⟩
  · rw [h1] at K
    rw [h2]
    have hvi := hv _ (List.getElem_mem hi)
    have H := hid (fun W (hW : Below w.heap.size w W) => pr_at (h.below hW) i hi)
    generalize xs[i] = x at H hvi
    clear h1 h2 hv
    have i1 : (i : Int) < xs.length := by omega
    go_enter Try.func18, Try.ntmps18
    go_wp2_with fail
    refine K.out.mono ?_
    rintro e w2 ⟨rfl, hb2⟩
    have ba := below_alloc w2 (.cells #[] 5)
    have b3 := below_step hb2 ba
    obtain ⟨ad, rfl, h1, h2, _, h3⟩ := H.out _ b3
    unfold Pr.val at h2
    have hmo : (w2.alloc (.cells #[] 5)).ownsRow w2.heap.size 5 1 (.slice (some ⟨w2.heap.size, 0, none⟩) 0 0) 0 [] := World.ownsRow_made w2 #[] 0 (Nat.le_refl _) (by simp [maxLen]) rfl
    go_wp2_with (at_builtin; refine wpList_app rfl (.tmp 12) (.tmp 17) 23 rfl w2.heap.size 5 Try.underlying23 infoB rfl (by decide) (.slice (some ⟨w2.heap.size, 0, none⟩) 0 0) 0 [] rfl hmo x.vA x.v.length x.vc (x.v.map byt) rfl (by simp) h3 (byt_one x.v) (by omega) (by omega) (by simp) ?_; intro v5 w5 hin5 hg5 hat5)
    have hb5 : Below w2.heap.size w2 w5 := ba.grown hg5 (by simp) (by intro k hk; simp [Value.ownBlock] at hk; omega)
    rw [Nat.zero_add, List.nil_append] at hin5
    obtain ⟨D, q, rfl, _⟩ := own_shape hin5
    go_ret2
    exact ⟨D, q, x.v, rfl, rfl, own_rd hin5, (fun ad hA => Nat.le_trans hb2.size (own_lt hin5 (k := ad.block) (by rw [hA]; rfl)).1), below_step hb2 hb5⟩
end Go.Proofs.Ytkmeoobbjdbhjaa
