import Derived.Test.YtgkdnhbhmebmeaaDoorLogH
namespace Go.Proofs.YtgkdnhbhmebmeaaDoor
open Go.RowKit Go.Cov
theorem sl_set3 {w : World} {b : Nat} {x y : Int} {F : Option Addr} {n k : Nat} (h0 : w.cell? ⟨b, 0, none⟩ = some (.int .i64 x)) (h1 : w.cell? ⟨b, 1, none⟩ = some (.int .i64 y)) (h2 : w.cell? ⟨b, 2, none⟩ = some (.slice F n k)) {p : Value} {l : List UInt8} (h : Sl w p l) (x' y' z' : Value) :
    Sl (((w.setCell ⟨b, 0, none⟩ x').setCell ⟨b, 1, none⟩ y').setCell ⟨b, 2, none⟩ z') p l := sl_keepU h fun q u hq => by
  have n0 : (⟨b, 0, none⟩ : Addr) ≠ q := fun e => by rw [← e, h0] at hq; cases hq
  have n1 : (⟨b, 1, none⟩ : Addr) ≠ q := fun e => by rw [← e, h1] at hq; cases hq
  have n2 : (⟨b, 2, none⟩ : Addr) ≠ q := fun e => by rw [← e, h2] at hq; cases hq
  rw [World.cell?_setCell_other _ _ _ _ n2, World.cell?_setCell_other _ _ _ _ n1, World.cell?_setCell_other _ _ _ _ n0]
  exact hq
theorem below_set3 {a w : World} {b : Nat} {y0 y1 y2 : Value} (h : Below a.heap.size a w) (hb : a.heap.size ≤ b) : Below a.heap.size a (((w.setCell ⟨b, 0, none⟩ y0).setCell ⟨b, 1, none⟩ y1).setCell ⟨b, 2, none⟩ y2) := ((h.setCell (p := ⟨b, 0, none⟩) hb _).setCell (p := ⟨b, 1, none⟩) hb _).setCell (p := ⟨b, 2, none⟩) hb _
theorem one_lg {w : World} {b : Nat} {x : En} (h0 : w.cell? ⟨b, 0, none⟩ = some (.int .i64 x.c)) (h1 : w.cell? ⟨b, 1, none⟩ = some (.int .i64 x.r)) (h2 : w.cell? ⟨b, 2, none⟩ = some (.slice x.A x.op.length x.cap)) (hs : Sl w x.val x.op) : Lg w (some ⟨b, 0, none⟩) 1 [x] [x.data] := by
  refine ⟨⟨rd_three h0 h1 h2, fun a ha p hp => ?_⟩, Nat.le_refl _, rfl⟩
  rw [List.mem_singleton.1 ha] at hp
  rw [List.mem_singleton.1 hp]
  exact hs
theorem two_lg {w : World} {b : Nat} {x y : En} (h0 : w.cell? ⟨b, 0, none⟩ = some (.int .i64 x.c)) (h1 : w.cell? ⟨b, 1, none⟩ = some (.int .i64 x.r)) (h2 : w.cell? ⟨b, 2, none⟩ = some (.slice x.A x.op.length x.cap)) (h3 : w.cell? ⟨b, 3, none⟩ = some (.int .i64 y.c)) (h4 : w.cell? ⟨b, 4, none⟩ = some (.int .i64 y.r)) (h5 : w.cell? ⟨b, 5, none⟩ = some (.slice y.A y.op.length y.cap)) (hs : Sl w x.val x.op) (ht : Sl w y.val y.op) : Lg w (some ⟨b, 0, none⟩) 2 [x, y] [x.data, y.data] := by
  refine ⟨⟨fun j u hj => ⟨_, rfl, ?_⟩, fun a ha p hp => ?_⟩, Nat.le_refl _, rfl⟩
  · rw [add_none]
    rcases j with _ | _ | _ | _ | _ | _ | j
    · cases hj; exact h0
    · cases hj; exact h1
    · cases hj; exact h2
    · cases hj; exact h3
    · cases hj; exact h4
    · cases hj; exact h5
    · simp [enEl] at hj
  · rcases List.mem_cons.1 ha with rfl | ha
    · rw [List.mem_singleton.1 hp]; exact hs
    · rw [List.mem_singleton.1 ha] at hp
      rw [List.mem_singleton.1 hp]; exact ht
theorem fromL_len (s : Int) (L : EL) (n : Int) : (fromL s L n).length ≤ L.length := by
  unfold fromL
  cases atL s L n with
  | none => simp
  | some i => simp
theorem badE_app (L : EL) (d : ED) : badE (L ++ [d]) = (badE L || decide (8192 < d.2.2.length)) := by simp [badE]
theorem app_split (s : Int) (L : EL) (d : ED) : ∃ (s' : Int) (M : EL) (err : Int), appR s L d = (s', M, err) ∧ ((err == 0) = true ∧ err = 0 ∧ s' = s ∧ M = L ++ [d] ∧ rightL s L = true ∧ rightL s (L ++ [d]) = true ∨ (err != 0) = true ∧ (err == 0) = false) := by
  unfold appR
  cases hr : rightL s L with
  | false => exact ⟨_, _, _, rfl, .inr ⟨rfl, rfl⟩⟩
  | true =>
    rw [if_pos rfl]
    by_cases hc : L.length = 64 ∨ s + L.length = 1099511627776 ∨ 8192 < d.2.2.length
    · rw [if_pos hc]; exact ⟨_, _, _, rfl, .inr ⟨rfl, rfl⟩⟩
    · rw [if_neg hc]
      refine ⟨_, _, _, rfl, .inl ⟨rfl, rfl, rfl, rfl, rfl, ?_⟩⟩
      obtain ⟨h1, h2, h3, h4⟩ := rightL_iff.1 hr
      refine rightL_iff.2 ⟨h1, by rw [List.length_append, List.length_singleton]; omega, by rw [List.length_append, List.length_singleton]; omega, ?_⟩
      rw [badE_app, h4]
      simp
      omega
theorem end_app {s : Int} {L : EL} {d : ED} (h : rightL s (L ++ [d]) = true) : endL s (L ++ [d]) = s + L.length + 1 := by
  rw [endL, if_pos h, List.length_append, List.length_singleton]; omega
theorem atE_app {s : Int} {L : EL} {d : ED} (h : rightL s (L ++ [d]) = true) : atE s (L ++ [d]) (s + L.length + 1) = some d := by
  have : atL s (L ++ [d]) (s + L.length + 1) = some (L.length + 1) := by
    unfold atL
    rw [if_pos ⟨h, by omega, by rw [List.length_append, List.length_singleton]; omega⟩]
    congr 1
    omega
  rw [atE_some this]
  simp
theorem find_app {s : Int} {L : EL} {d : ED} (h : rightL s (L ++ [d]) = true) : findL s (L ++ [d]) d.1 d.2.1 = s + L.length + 1 := by
  unfold findL
  rw [if_pos h]
  have : lastIx (hits d.1 d.2.1) (L ++ [d]) = some L.length := by
    unfold lastIx
    rw [List.reverse_append, List.reverse_singleton, List.singleton_append, List.findIdx?_cons]
    simp [hits]
  rw [this]
end Go.Proofs.YtgkdnhbhmebmeaaDoor
