import Derived.Test.YtkmeoobbjdbhjaaWireJ
namespace Go.Proofs.Ytkmeoobbjdbhjaa
open Go.RowKit Go.Cov
set_option maxHeartbeats 800000 in
theorem rputrow_any {A : Option Addr} {c : Nat} {ls : List (List UInt8)} {w : World} (h : RowRd w A ls) (hl : ls.length ≤ 140737488351236) :
    Calls Try.prog 35 #[.slice A ls.length c] w fun e w' => ∃ v, e = .returned (.tuple #[v, .int .i64 (putRowR ls).2]) ∧ w'.ownsRow w.heap.size 5 1 v (putRowR ls).1.length ((putRowR ls).1.map byt) ∧ Below w.heap.size w w' := by
  by_cases hm : 1024 < ls.length
  · rw [putRowR_many hm]
    dsimp only
    go_enter Try.func35, Try.ntmps35
    go_wp2_with fail
    go_ret2
    exact ⟨_, rfl, World.ownsRow_nil _ _ _ _, Below.refl _ _⟩
  · have h4 := rwTo_zero ls
    have Hl := hid (be_length 4 ls.length)
    go_enter Try.func35, Try.ntmps35
    go_wp2_with fail
    refine (four_any ls.length (by omega) w).mono ?_
    rintro e w1 ⟨v1, rfl, hown1, hb1⟩
    rw [← h4] at hown1
    clear h4
    go_wp2_with fail
    go_loopw [4, 5] (fun v i W => ∃ (k : Nat), k ≤ ls.length ∧ i = .int .i64 k ∧ (∀ i, (h : i < ls.length) → i < k → ls[i].length ≤ 65536) ∧ W.ownsRow w.heap.size 5 1 v (rwTo ls k).length ((rwTo ls k).map byt) ∧ Below w.heap.size w W) (fun _ i _ => ls.length - (intOf i).toNat)
    case atStart => exact ⟨0, Nat.zero_le _, rfl, fun i hi hlt => by omega, by rw [rwTo_zero, Hl.out, ← rwTo_zero]; exact hown1, hb1⟩
    case round =>
      obtain ⟨k, hk, rfl, hall, hown, hb⟩ := hrel
      by_cases hlt : k < ls.length
      · obtain ⟨ad, B, d, rfl, hcell, hd, hdm, hr⟩ := h.at' k hlt
        have hle := rwTo_le ls k hk hall
        have hcell' := (hb.cell (cell_lt hcell)).trans hcell
        clear hcell
        have hr' := hr.below hb
        by_cases hx : ls[k].length ≤ 65536
        · have hs := hid (rwTo_succ ls k hlt)
          have hall2 : ∀ i, (h : i < ls.length) → i < k + 1 → ls[i].length ≤ 65536 := fun i hi h => by
            by_cases he : i = k
            · subst he; exact hx
            · exact hall i hi (by omega)
          have hput := rputbytes_ok (c := d) hr' hx
          have Hall := hid hall2
          clear hall hall2
          generalize ls[k] = t at hcell' hr' hx hs hput hd
          go_wp2_with fail
          refine hput.mono ?_
          rintro e w2 ⟨v2, rfl, hown2, hb2⟩
          have hown' := own_below hown hb2
          obtain ⟨A2, c2, rfl, hc2, _⟩ := own_shape hown2
          have ht := tx_length t
          have Ht := hid ht
          clear ht
          go_wp2_with (at_builtin; refine wpList_app rfl (.tmp 31) (.tmp 32) 23 rfl w.heap.size 5 Try.underlying23 infoB rfl (by decide) _ _ _ rfl hown' A2 (tx t).length c2 ((tx t).map byt) rfl (by simp) (own_rd hown2) (byt_one _) (by have := Ht.out; omega) (by have := Ht.out; omega) (by have := hb.size; have := hb2.size; omega) ?_; intro v3 w3 hin3 hg3 hat3; have hb3 : Below w.heap.size w w3 := ((hb.trans (hb2.mono hb.size)).grown hg3 (by have := hb.size; have := hb2.size; omega) (by intro k hk; exact (own_lt hown' hk).1)))
          go_roundw
          case rel => exact ⟨k + 1, by omega, by go_num, Hall.out, by rw [hs.out, List.length_append, List.map_append]; exact hin3, hb3⟩
          case measure => simp [intOf]; omega
        · have hno := putRowR_no k hlt (by omega)
          have hput := rputbytes_no (A := B) (c := d) (w := wr) (n := ls[k].length) (by omega)
          generalize ls[k].length = t at hcell' hput
          have Hno := hid hno
          clear hno
          go_wp2_with fail
          refine hput.mono ?_
          rintro e w2 ⟨rfl, rfl⟩
          go_wp2_with fail
          go_ret2
          rw [Hno.out]
          exact ⟨_, rfl, World.ownsRow_nil _ _ _ _, hb⟩
      · obtain rfl : k = ls.length := by omega
        have Hok := hid (putRowR_ok (by omega) (fun i hi => hall i hi hi))
        rw [rwTo_all] at hown
        clear hall
        go_wp2_with fail
        go_ret2
        rw [Hok.out]
        exact ⟨_, rfl, hown, hb⟩
end Go.Proofs.Ytkmeoobbjdbhjaa
