import Derived.Test.YtoceipdkmafagaaOpF
import Derived.Test.YtoceipdkmafagaaPlain1
/-! op: the writer's texts -/
namespace Go.Proofs.Ytoceipdkmafagaa
open Go.RowKit Go.Cov
/-- texts' bytes -/
def txB (ls : List (List UInt8)) : List UInt8 := ls.flatMap tx
theorem txB_step (ls : List (List UInt8)) (k : Nat) (hk : k < ls.length) : txB (ls.take (k + 1)) = txB (ls.take k) ++ tx ls[k] := by
  unfold txB; rw [List.take_succ_eq_append_getElem hk, List.flatMap_append]; simp [List.flatMap_cons]
theorem txB_le (ls : List (List UInt8)) (h : ∀ s ∈ ls, s.length ≤ 65536) (k : Nat) : (txB (ls.take k)).length ≤ 65540 * k := by
  induction k with
  | zero => simp [txB]
  | succ k ih =>
    by_cases hk : k < ls.length
    · rw [txB_step ls k hk, List.length_append, tx_length]
      have := h _ (List.getElem_mem hk)
      omega
    · rw [List.take_of_length_le (by omega)]
      rw [List.take_of_length_le (by omega)] at ih
      omega
set_option maxHeartbeats 3200000 in
theorem texts_any {w : World} {wb : Nat} {v : Value} {l : List UInt8} (hW : Wt 5 w wb v l) {A : Option Addr} {c : Nat} {ls : List (List UInt8)} (hr : ∀ v' W, Tw wb v w v' W → RowRd W A ls) (hs : ∀ s ∈ ls, s.length ≤ 65536) (hn : ls.length ≤ 1000) (hl : l.length ≤ 1000000000000) :
    Calls Try.prog 24 #[.pointer (some ⟨wb, 0, none⟩), .slice A ls.length c] w fun e w' => ∃ r v', e = .returned r ∧ Wt 5 w' wb v' (l ++ txB ls) ∧ Tw wb v w v' w' := by
  go_enter Try.func24, Try.ntmps24
  go_wp2_with fail
  go_loopw [10] (fun i W => ∃ (k : Nat) (vk : Value), k ≤ ls.length ∧ i = .int .i64 k ∧ Wt 5 W wb vk (l ++ txB (ls.take k)) ∧ Tw wb v w vk W) (fun i _ => ls.length - (RowKit.intOf i).toNat)
  case atStart => exact ⟨0, v, by omega, rfl, by simpa [txB] using hW, Tw.refl _ _ _⟩
  case round =>
    obtain ⟨k, vk, hk, rfl, hWk, hT⟩ := hrel
    by_cases hlt : k < ls.length
    · have i1 : (k : Int) < ls.length := by omega
      obtain ⟨ad, B, cb, rfl, x0, hcb, hcm, rB⟩ := (hr vk wr hT).at' k hlt
      have h64 := hs _ (List.getElem_mem hlt)
      obtain ⟨lk, hlk⟩ : ∃ lk, lk = l ++ txB (ls.take k) := ⟨_, rfl⟩
      have hlen : lk.length ≤ 2000000000000 := by
        have := txB_le ls hs k
        rw [hlk, List.length_append]; omega
      have HST : Hid (lk ++ tx ls[k] = l ++ txB (ls.take (k + 1))) := by rw [hlk, txB_step ls k hlt, List.append_assoc]; exact hid rfl
      rw [← hlk] at hWk
      clear hlk
      go_wp2_with fail
      refine (putbytes_ok rB h64).mono ?_
      rintro e w2 ⟨vx, rfl, ownx, hbx⟩
      have hW2 := hWk.on hbx
      have C2 := hW2.cell
      obtain ⟨Ax, cx, rfl, _, _, _⟩ := own_shape ownx
      obtain ⟨n, hn2⟩ : ∃ n, n = (tx ls[k]).length := ⟨_, rfl⟩
      have hn3 : n ≤ 65540 := by rw [hn2, tx_length]; omega
      rw [← hn2] at ownx ⊢
      have HN2 := hid hn2
      clear hn2
      go_wp2_with (at_builtin; refine wpList_app rfl (.tmp 23) (.tmp 24) 22 rfl (wb + 1) 5 Try.underlying22 infoB rfl (by decide) vk lk.length _ rfl hW2.own Ax n cx ((tx ls[k]).map byt) rfl (by rw [List.length_map]; have := HN2.out; omega) (own_rd ownx) (byt_one _) (by omega) (by omega) (by have := hW2.lt; omega) ?_; intro v7 w7 own7 hg7 hat7; obtain ⟨A7, c7, rfl, _⟩ := own_shape own7; obtain ⟨C7, F7⟩ := hW2.mid hg7)
      obtain ⟨hW7, hT7⟩ := hW2.app (m := tx ls[k]) hg7 hat7 (by rw [← HN2.out]; exact own7)
      rw [HST.out] at hW7
      clear C2 C7 F7
      generalize World.setCell _ _ _ = w8 at hW7 hT7 ⊢
      go_wp2_with fail
      go_roundw
      case rel => exact ⟨k + 1, _, by omega, by go_num, hW7, hT.trans ((Tw.of_below hbx).trans hT7)⟩
      case measure => simp [RowKit.intOf]; omega
    · obtain rfl : k = ls.length := by omega
      rw [List.take_length] at hWk
      go_wp2_with fail
      refine bodyPost_end (results_none rfl _ _ _) rfl ?_
      exact ⟨_, _, rfl, hWk, hT⟩
end Go.Proofs.Ytoceipdkmafagaa
