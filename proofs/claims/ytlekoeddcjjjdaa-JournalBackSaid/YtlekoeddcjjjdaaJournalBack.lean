/-
  The walk of the law JournalBack.
-/
import Derived.Test.YtlekoeddcjjjdaaJourG
import Derived.Test.YtlekoeddcjjjdaaStoreQ
namespace Go.Proofs.Ytlekoeddcjjjdaa
open Go.RowKit Go.Cov Go.Lib
set_option maxRecDepth 100000 in
set_option maxHeartbeats 6400000 in
theorem back_law {A B D : Option Addr} {c d f : Nat} {xs : List Pr} {L : PL} {os ms : List Ow} {w : World} (h : St w A c xs L) (hz : xs.length ≤ 2932031007403) (g : Els owEl w B os) (gm : Els owEl w D ms) :
    Calls Try.prog 4 #[.slice A xs.length c, .slice B os.length d, .slice D ms.length f] w fun e w' => e = .returned (.bool true) ∧ Below w.heap.size w w' := by
  go_enter Try.func4, Try.ntmps4
  go_wp2_with fail
  refine (jhead_any w).mono ?_
  rintro e w1 ⟨rfl, hb1⟩
  by_cases hr : rightP L = true
  · have hok := okay_iff.1 hr
    go_wp2_with fail
    refine (jnew_ok (h.below hb1) hz hr).mono ?_
    rintro e w2 ⟨jb, rfl, hj2, hb2⟩
    have hw : w.heap.size ≤ w1.heap.size := hb1.size
    have b2 := below_step hb1 hb2
    have hb3 := below_alloc w2 (.cells #[.pointer (some ⟨jb, 0, none⟩)] 25)
    have v3 := box_cell w2 #[.pointer (some ⟨jb, 0, none⟩)] 25 0 _ rfl
    have n3 : (w2.alloc (.cells #[.pointer (some ⟨jb, 0, none⟩)] 25)).heap.size = w2.heap.size + 1 := size_run
    by_cases hg : 300 < os.length
    · go_wp2_with fail
      refine (jgreat_any _).mono ?_
      rintro e w4 ⟨rfl, rfl⟩
      rw [decide_eq_true hg]
      go_wp2_with fail
      go_ret
      exact ⟨rfl, below_step b2 hb3⟩
    · by_cases hgm : 300 < ms.length
      · go_wp2_with fail
        refine (jgreat_any _).mono ?_
        rintro e w4 ⟨rfl, rfl⟩
        rw [decide_eq_false hg]
        go_wp2_with fail
        refine (jgreat_any _).mono ?_
        rintro e w4 ⟨rfl, rfl⟩
        rw [decide_eq_true hgm]
        go_wp2_with fail
        go_ret
        exact ⟨rfl, below_step b2 hb3⟩
      · obtain ⟨vb, hvb⟩ : ∃ vb, vb = w2.heap.size := ⟨_, rfl⟩
        go_wp2_with fail
        refine (jgreat_any _).mono ?_
        rintro e w4 ⟨rfl, rfl⟩
        rw [decide_eq_false hg]
        go_wp2_with fail
        refine (jgreat_any _).mono ?_
        rintro e w4 ⟨rfl, rfl⟩
        rw [decide_eq_false hgm]
        have ha3 := hj2.apart hb3 (Nat.le_refl _) (by rw [n3]; exact Nat.lt_succ_self _)
        have hj3 := hj2.below hb3
        have b3 := below_step b2 hb3
        rw [← hvb] at ha3 v3 ⊢
        generalize w2.alloc (.cells #[.pointer (some ⟨jb, 0, none⟩)] 25) = w3 at hb3 v3 n3 ha3 hj3 b3 ⊢
        have n0 : ([] : List PL).length + os.length ≤ 100000 := by simp; omega
        have KD := hid (jdo_any (d := d) g b3 hw hj3 hok n0 v3 ha3)
        clear hvb n3 hj2
        go_wp2_with fail
        refine KD.out.mono ?_
        rintro e w4 ⟨⟨v4, rfl⟩, hist, cur, hj4, hk4, hp4, hl4, hb4, hkp4⟩
        have ha4 := (hkp4 vb ha3).2
        have v4 : w4.cell? ⟨vb, 0, none⟩ = some (.pointer (some ⟨jb, 0, none⟩)) := (World.cell?_of_block (hkp4 vb ha3).1).trans v3
        have b4 := b3.trans (hb4.mono hw)
        have hl4 : hist.length ≤ 300 := by simp at hl4; omega
        clear KD ha3 hj3 hkp4
        go_wp2_with fail
        refine (jmark_any hj4).mono ?_
        rintro e wm ⟨rfl, rfl⟩
        go_wp2_with fail
        refine (jpairs_k hj4 hk4).mono ?_
        rintro e w5 ⟨C5, q5, ys5, rfl, st5, hb5, own5, pv5⟩
        have hj5 := hj4.below hb5
        have hap : ∀ k, wm.heap.size ≤ k → k < w5.heap.size → Apart w5 jb k := fun k h1 h2 => hj4.apart hb5 h1 h2
        have ha5 := (hj4.old hb5 vb ha4).2
        have v5 := cell_on hb5 v4
        have b5 := below_step b4 hb5
        have KD := hid (jdo_any (d := f) gm b5 hw hj5 hk4 (by omega) v5 ha5)
        go_wp2_with fail
        refine KD.out.mono ?_
        rintro e w6 ⟨⟨v6, rfl⟩, hist6, cur6, hj6, hk6, hp6, hl6, hb6, hkp6⟩
        have b6 := b5.trans (hb6.mono hw)
        have v6 : w6.cell? ⟨vb, 0, none⟩ = some (.pointer (some ⟨jb, 0, none⟩)) := (World.cell?_of_block (hkp6 vb ha5).1).trans v5
        have ha6 := (hkp6 vb ha5).2
        obtain ⟨hle, htk, hgd⟩ := ext_back hp6
        obtain ⟨hle0, htk0, hgd0⟩ := ext_back hp4
        clear KD
        go_wp2_with fail
        refine (jpairs_any hj6 hk6).mono ?_
        rintro e w7 ⟨C7, q7, ys7, rfl, st7, hb7⟩
        have hj7 := hj6.below hb7
        have hkp7 := hkp6.trans (hj6.old hb7)
        have b7 := below_step b6 hb7
        have KR := rright_pairs (c := q7) st7.1 (by have := st7.len; have := hk6.len; omega)
        rw [st7.2.2, okay_iff.2 hk6] at KR
        have KR := hid KR
        go_wp2_with fail
        refine KR.out.mono ?_
        rintro e w8 ⟨rfl, hb8⟩
        have hj8 := hj7.below hb8
        have hkp8 := hkp7.trans (hj7.old hb8)
        have b8 := below_step b7 hb8
        have v8 : w8.cell? ⟨vb, 0, none⟩ = some (.pointer (some ⟨jb, 0, none⟩)) := (World.cell?_of_block (hkp8 vb ha5).1).trans v5
        have KU := jundo_k hj8 (by omega) hist.length hle
        rw [htk, hgd] at KU
        have KU := hid KU
        go_wp2_with fail
        refine KU.out.mono ?_
        rintro e w9 ⟨rfl, hj9, hb9, hkp9⟩
        have hkp9 := hkp8.trans hkp9
        have b9 := b8.trans (hb9.mono hw)
        have v9 : w9.cell? ⟨vb, 0, none⟩ = some (.pointer (some ⟨jb, 0, none⟩)) := (World.cell?_of_block (hkp9 vb ha5).1).trans v5
        have st9 : St w9 C5 q5 ys5 cur := st_keep (P := fun k => wm.heap.size ≤ k ∧ k < w5.heap.size) st5 (fun ad hA => own5.lt (k := ad.block) (by rw [hA]; rfl)) (fun y hy => (pv5 y hy).1) (fun k hk => (hkp9 k (hap k hk.1 hk.2)).1)
        go_wp2_with fail
        refine (jpairs_any hj9 hk4).mono ?_
        rintro e w10 ⟨C10, q10, ys10, rfl, st10, hb10⟩
        have hj10 := hj9.below hb10
        have b10 := below_step b9 hb10
        have v10 := cell_on hb10 v9
        have KS := same_st st10 (st9.below hb10) (by have := st10.len; have := hk4.len; omega)
        rw [decide_eq_true rfl] at KS
        have KS := hid KS
        go_wp2_with fail
        refine KS.out.mono ?_
        rintro e w11 ⟨rfl, hb11⟩
        have hj11 := hj10.below hb11
        have b11 := below_step b10 hb11
        have v11 := cell_on hb11 v10
        go_wp2_with fail
        refine (jmark_any hj11).mono ?_
        rintro e wq ⟨rfl, rfl⟩
        have KN := hid (jundo_no hj11 ((hist.length : Int) + 1) (.inr (by omega)))
        have i1 : (hist.length : Int) ≤ 300 := by omega
        go_wp2_with fail
        refine KN.out.mono ?_
        rintro e wq2 ⟨rfl, rfl⟩
        have KZ := jundo_k hj11 (by omega) 0 (Nat.zero_le _)
        rw [show hist.take 0 = [] from rfl, show hist.getD 0 cur = L from hgd0] at KZ
        have KZ := hid KZ
        go_wp2_with fail
        refine KZ.out.mono ?_
        rintro e w12 ⟨rfl, hj12, hb12, hkp12⟩
        have b12 := b11.trans (hb12.mono hw)
        have v12 : w12.cell? ⟨vb, 0, none⟩ = some (.pointer (some ⟨jb, 0, none⟩)) := (World.cell?_of_block (hkp12 vb ((hj9.old (below_step hb10 hb11)) vb (hkp9 vb ha5).2).2).1).trans v11
        go_wp2_with fail
        refine (jpairs_any hj12 hok).mono ?_
        rintro e w13 ⟨C13, q13, ys13, rfl, st13, hb13⟩
        have b13 := below_step b12 hb13
        have KS := same_st st13 (h.below b13) (by have := st13.len; have := hok.len; omega)
        rw [decide_eq_true rfl] at KS
        have KS := hid KS
        go_wp2_with fail
        refine KS.out.mono ?_
        rintro e w14 ⟨rfl, hb14⟩
        go_wp2_with fail
        go_ret
        exact ⟨rfl, below_step b13 hb14⟩
  · have hr : rightP L = false := by simpa using hr
    go_wp2_with fail
    refine (jnew_no (h.below hb1) hz hr).mono ?_
    rintro e w2 ⟨rfl, hb2⟩
    have hb3 := below_alloc w2 (.cells #[.pointer none] 25)
    have v3 := box_cell w2 #[.pointer none] 25 0 _ rfl
    go_wp2_with fail
    go_ret
    exact ⟨rfl, below_step (below_step hb1 hb2) hb3⟩
end Go.Proofs.Ytlekoeddcjjjdaa
