import Derived.Test.YtlekoeddcjjjdaaJourHead
import Derived.Test.YtlekoeddcjjjdaaPlain1
namespace Go.Proofs.Ytlekoeddcjjjdaa
open Go.RowKit Go.Cov Go.Lib
theorem jgreat_any {A : Option Addr} {n c : Nat} (w : World) : Calls Try.prog 11 #[.slice A n c] w fun e w' => e = .returned (.bool (decide (300 < n))) ∧ w' = w := by
  have H := hid (show decide ((300 : Int) < n) = decide (300 < n) by rw [decide_eq_decide]; omega)
  go_enter Try.func11, Try.ntmps11
  go_wp2_with fail
  go_ret
  rw [H.out]
  exact ⟨rfl, rfl⟩
/-- a call on a journal, without Undo and Get -/
theorem okay_put {L M : PL} {m v : List UInt8} (h : Okay L) (hp : putR L m v = (M, 0)) : Okay M := by
  unfold putR at hp
  by_cases hbig : 64 < m.length ∨ 256 < v.length
  · rw [if_pos hbig] at hp; injection hp with _ hp; omega
  · rw [if_neg hbig] at hp
    by_cases hs : 2048 < sizeP (insP L m v)
    · rw [if_pos hs] at hp; injection hp with _ hp; omega
    · rw [if_neg hs] at hp
      injection hp with hp _
      rw [← hp]
      exact okay_iff.1 (put_right (okay_iff.2 h) hbig hs)
theorem okay_del {L : PL} {m : List UInt8} (h : Okay L) : Okay (delP L m) := okay_iff.1 (del_right (okay_iff.2 h))
theorem jput_cases {hist : List PL} {cur : PL} {m v : List UInt8} (h : Okay cur) : ((putR cur m v).2 = 0 ∧ (jput hist cur m v).1 = hist ++ [cur] ∧ Okay (jput hist cur m v).2) ∨ ((putR cur m v).2 ≠ 0 ∧ jput hist cur m v = (hist, cur)) := by
  unfold jput
  by_cases he : (putR cur m v).2 = 0
  · rw [if_pos he]
    exact .inl ⟨he, rfl, okay_put h (Prod.ext rfl he)⟩
  · rw [if_neg he]
    exact .inr ⟨he, rfl⟩
theorem put_zero {L : PL} {m v : List UInt8} (he : (putR L m v).2 = 0) : (putR L m v).1 = insP L m v := by
  unfold putR at he ⊢
  by_cases hbig : 64 < m.length ∨ 256 < v.length
  · rw [if_pos hbig] at he; simp at he
  · rw [if_neg hbig] at he ⊢
    by_cases hs : 2048 < sizeP (insP L m v)
    · rw [if_pos hs] at he; simp at he
    · rw [if_neg hs]
theorem jput_ins {hist : List PL} {cur : PL} {m v : List UInt8} (he : (putR cur m v).2 = 0) : (jput hist cur m v).2 = insP cur m v := by
  unfold jput
  rw [if_pos he]
  exact put_zero he
end Go.Proofs.Ytlekoeddcjjjdaa
