import Derived.Test.YtelmndpelgbboaaCliE
namespace Go.Proofs.Ytelmndpelgbboaa
open Go.RowKit Go.Conc Go.Cov
/-- a request, as it lies in a slice -/
structure Rq where
  q : Int
  n : Int
  c : Int
  A : Option Addr
  bc : Nat
  body : List UInt8
deriving Inhabited
def Rq.val (r : Rq) : Value := .slice r.A r.body.length r.bc
def rqEl : El Rq where
  sz := 15
  cells := fun r => reqL r.q r.n r.c r.val
  cons := fun r => [(r.val, r.body)]
  len := fun _ => rfl
  one := fun r => reqL_one r.q r.n r.c rfl
  pos := by decide
/-- may it ask? -/
def mayAsk (s : Cs) (b : List UInt8) : Prop := s.waits = false ∧ b.length ≤ 8192 ∧ s.count < 1099511627776 ∧ s.ans.length < s.room.toNat
def asks (s : Cs) (b : List UInt8) (V : Option Addr) (k : Nat) : Cs := { s with count := s.count + 1, waits := true, ticks := 0, bA := V, bc := k, body := b }
/-- bounds that always hold -/
def Fine (s : Cs) : Prop := okC s.f s.number s.again s.room ∧ 0 ≤ s.view ∧ s.view ≤ 1073741824 ∧ 0 ≤ s.count ∧ s.count ≤ 1099511627776 ∧ s.ans.length ≤ s.room.toNat ∧ (s.waits = true → s.ans.length < s.room.toNat)
set_option maxRecDepth 100000 in
set_option maxHeartbeats 3200000 in
theorem ask_no {w : World} {base cb : Nat} {s : Cs} (h : Cl w base cb s) (hf : Fine s) {B : Option Addr} {d : Nat} {b : List UInt8} (hm : ¬ mayAsk s b) :
    Calls Try.prog 10 #[.pointer (some ⟨cb, 0, none⟩), .slice B b.length d] w fun e w' => e = .returned (.tuple #[.slice none 0 0, .bool false]) ∧ Below w.heap.size w w' := by
  have H := hid (show s.waits = true ∨ (s.waits = false ∧ (8192 : Int) < b.length) ∨ (s.waits = false ∧ ¬ (8192 : Int) < b.length ∧ s.count = 1099511627776) ∨ (s.waits = false ∧ ¬ (8192 : Int) < b.length ∧ s.count ≠ 1099511627776 ∧ (s.ans.length : Int) = s.room) by
    obtain ⟨⟨_, _, _, _, _, hr1, hr2⟩, _, _, _, h5, h6, _⟩ := hf
    unfold mayAsk at hm
    cases hw : s.waits with
    | true => exact .inl rfl
    | false =>
      simp only [hw, true_and] at hm
      right
      by_cases h1 : b.length ≤ 8192
      · by_cases h2 : s.count < 1099511627776
        · exact .inr (.inr ⟨rfl, by omega, by omega, by omega⟩)
        · exact .inr (.inl ⟨rfl, by omega, by omega⟩)
      · exact .inl ⟨rfl, by omega⟩)
  have c5 : w.cell? ⟨cb, 5, none⟩ = some (.bool s.waits) := (h.row.2 5 _ rfl).1
  have c1 : w.cell? ⟨cb, 1, none⟩ = some (.int .i64 s.count) := (h.row.2 1 _ rfl).1
  have c8 : w.cell? ⟨cb, 8, none⟩ = some (.int .i64 s.room) := (h.row.2 8 _ rfl).1
  have c9 : w.cell? ⟨cb, 9, none⟩ = some (.pointer (some ⟨s.xb, 0, none⟩)) := (h.row.2 9 _ rfl).1
  rcases H.out with j1 | ⟨j1, j2⟩ | ⟨j1, j2, j3⟩ | ⟨j1, j2, j3, j4⟩
  · go_enter Try.func10, Try.ntmps10
    go_wp2_with fail
    go_ret2
    exact ⟨rfl, Below.refl _ _⟩
  · go_enter Try.func10, Try.ntmps10
    go_wp2_with fail
    go_ret2
    exact ⟨rfl, Below.refl _ _⟩
  · have j5 : (s.count == 1099511627776) = true := by simpa using j3
    go_enter Try.func10, Try.ntmps10
    go_wp2_with fail
    go_ret2
    exact ⟨rfl, Below.refl _ _⟩
  · have j5 : (s.count == 1099511627776) = false := by simpa using j3
    have j6 : ((s.ans.length : Int) == s.room) = true := by simpa using j4
    go_enter Try.func10, Try.ntmps10
    go_upto_region 4 with fail
    have k8 := fun W (hW : Below w.heap.size w W) => cell_on hW c8
    have k9 := fun W (hW : Below w.heap.size w W) => cell_on hW c9
    have KL := hid (fun W (hW : Below w.heap.size w W) => len_any (h.box.below hW))
    refine wp_region_noPanic ?_
    refine wp_region_held_drew (S := (fun W => Below w.heap.size w W)) (by kernel_rfl) ?_ (fun hHeld => ?_)
    · exact (Below.refl _ _).drew
    refine wpAnyH_take (i := 0) (oi := ?oi1) (v := ?v1) ?hi1 (by kernel_rfl) (by kernel_rfl) (by kernel_rfl) ?hQ1 ?hy1 (by assumption) ?hrest1
    case hi1 => (simp only [List.getElem?_toArray, List.getElem?_cons_zero]; try rfl)
    case hQ1 => exact fun _ _ _ h => h
    case hy1 =>
      refine Or.inl ⟨by rfl, ?_⟩
      (intro wq hSw; (try dsimp only at hSw); go_simp; try with_reducible rfl)
    (try simp only [Act.put, List.setIfInBounds_toArray, List.set_cons_zero, List.set_cons_succ])
    refine wpAnyH_take (i := 1) (oi := ?oi2) (v := ?v2) ?hi2 (by kernel_rfl) (by kernel_rfl) (by kernel_rfl) ?hQ2 ?hy2 (by assumption) ?hrest2
    case hi2 => (simp only [List.getElem?_toArray, List.getElem?_cons_succ, List.getElem?_cons_zero]; try rfl)
    case hQ2 => exact fun _ _ _ h => h
    case hy2 =>
      refine Or.inl ⟨by rfl, ?_⟩
      (intro wq hSw; (try dsimp only at hSw); go_simp; try with_reducible rfl)
    (try simp only [Act.put, List.setIfInBounds_toArray, List.set_cons_zero, List.set_cons_succ])
    refine wpAnyH_take (i := 2) (oi := ?oi3) (v := ?v3) ?hi3 (by kernel_rfl) (by kernel_rfl) (by kernel_rfl) ?hQ3 ?hy3 (by assumption) ?hrest3
    case hi3 => (simp only [List.getElem?_toArray, List.getElem?_cons_succ, List.getElem?_cons_zero]; try rfl)
    case hQ3 => exact fun _ _ _ h => h
    case hy3 =>
      refine Or.inl ⟨by rfl, ?_⟩
      (intro wq hSw; (try dsimp only at hSw); go_simp; try with_reducible rfl)
    (try simp only [Act.put, List.setIfInBounds_toArray, List.set_cons_zero, List.set_cons_succ])
    refine wpAnyH_take (i := 3) (oi := ?oi4) (v := ?v4) ?hi4 (by kernel_rfl) (by kernel_rfl) (by kernel_rfl) ?hQ4 ?hy4 (by assumption) ?hrest4
    case hi4 => (simp only [List.getElem?_toArray, List.getElem?_cons_succ, List.getElem?_cons_zero]; try rfl)
    case hQ4 => exact fun _ _ _ h => h
    case hy4 =>
      refine Or.inl ⟨by rfl, ?_⟩
      (intro wq hSw; (try dsimp only at hSw); go_simp; try with_reducible rfl)
    (try simp only [Act.put, List.setIfInBounds_toArray, List.set_cons_zero, List.set_cons_succ])
    refine wpAnyH_take (i := 5) (oi := ?oi5) (v := ?v5) ?hi5 (by kernel_rfl) (by kernel_rfl) (by kernel_rfl) ?hQ5 ?hy5 (by assumption) ?hrest5
    case hi5 => (simp only [List.getElem?_toArray, List.getElem?_cons_succ, List.getElem?_cons_zero]; try rfl)
    case hQ5 => exact fun _ _ _ h => h
    case hy5 =>
      refine Or.inl ⟨by rfl, ?_⟩
      (intro wq hSw; (try dsimp only at hSw); go_simp; try with_reducible rfl)
    (try simp only [Act.put, List.setIfInBounds_toArray, List.set_cons_zero, List.set_cons_succ])
    refine wpAnyH_take (i := 6) (oi := ?oi6) (v := ?v6) ?hi6 (by kernel_rfl) (by kernel_rfl) (by kernel_rfl) ?hQ6 ?hy6 (by assumption) ?hrest6
    case hi6 => (simp only [List.getElem?_toArray, List.getElem?_cons_succ, List.getElem?_cons_zero]; try rfl)
    case hQ6 => exact fun _ _ _ h => h
    case hy6 =>
      refine Or.inl ⟨by rfl, ?_⟩
      (intro wq hSw; (try dsimp only at hSw); go_simp; try with_reducible rfl)
    (try simp only [Act.put, List.setIfInBounds_toArray, List.set_cons_zero, List.set_cons_succ])
    refine wpAnyH_take (i := 7) (oi := ?oi7) (v := ?v7) ?hi7 (by kernel_rfl) (by kernel_rfl) (by kernel_rfl) ?hQ7 ?hy7 (by assumption) ?hrest7
    case hi7 => (simp only [List.getElem?_toArray, List.getElem?_cons_succ, List.getElem?_cons_zero]; try rfl)
    case hQ7 => exact fun _ _ _ h => h
    case hy7 =>
      refine Or.inl ⟨by rfl, ?_⟩
      (intro wq hSw; (try dsimp only at hSw); go_simp; try with_reducible rfl)
    (try simp only [Act.put, List.setIfInBounds_toArray, List.set_cons_zero, List.set_cons_succ])
    refine wpAnyH_take (i := 8) (oi := ?oi8) (v := ?v8) ?hi8 (by kernel_rfl) (by kernel_rfl) (by kernel_rfl) ?hQ8 ?hy8 (by assumption) ?hrest8
    case hi8 => (simp only [List.getElem?_toArray, List.getElem?_cons_succ, List.getElem?_cons_zero]; try rfl)
    case hQ8 => exact fun _ _ _ h => h
    case hy8 =>
      refine Or.inl ⟨by rfl, ?_⟩
      (intro wq hSw; (try dsimp only at hSw); go_simp; try with_reducible rfl)
    (try simp only [Act.put, List.setIfInBounds_toArray, List.set_cons_zero, List.set_cons_succ])
    refine wpAnyH_ready (rs := [4]) (by kernel_rfl) (by simp) ?_
    refine AllReadyH.cons (o := ?oi9) ?hi9 (fun K hK => ?hstep9) AllReadyH.nil
    case hi9 => (simp only [List.getElem?_toArray, List.getElem?_cons_succ, List.getElem?_cons_zero]; try rfl)
    go_simp
    (refine (KL.out _ hHeld).mono ?_; rintro e wx ⟨rfl, rfl⟩; rw [List.length_map])
    refine hK.out _ _ hHeld (fun hHeld => ?_)
    clear hK K
    (try simp only [Act.put, List.setIfInBounds_toArray, List.set_cons_zero, List.set_cons_succ])
    refine wpAnyH_take (i := 9) (oi := ?oi10) (v := ?v10) ?hi10 (by kernel_rfl) (by kernel_rfl) (by kernel_rfl) ?hQ10 ?hy10 (by assumption) ?hrest10
    case hi10 => (simp only [List.getElem?_toArray, List.getElem?_cons_succ, List.getElem?_cons_zero]; try rfl)
    case hQ10 => exact fun _ _ _ h => h
    case hy10 =>
      refine Or.inl ⟨by rfl, ?_⟩
      (intro wq hSw; (try dsimp only at hSw); go_simp; try with_reducible rfl)
    (try simp only [Act.put, List.setIfInBounds_toArray, List.set_cons_zero, List.set_cons_succ])
    refine wpAnyH_take (i := 10) (oi := ?oi11) (v := ?v11) ?hi11 (by kernel_rfl) (by kernel_rfl) (by kernel_rfl) ?hQ11 ?hy11 (by assumption) ?hrest11
    case hi11 => (simp only [List.getElem?_toArray, List.getElem?_cons_succ, List.getElem?_cons_zero]; try rfl)
    case hQ11 => exact fun _ _ _ h => h
    case hy11 =>
      refine Or.inl ⟨by rfl, ?_⟩
      (intro wq hSw; (try dsimp only at hSw); go_simp; try with_reducible rfl)
    (try simp only [Act.put, List.setIfInBounds_toArray, List.set_cons_zero, List.set_cons_succ])
    refine wpAnyH_done (by kernel_rfl) ?_ _
    refine NoPanic.normal ?_
    go_wp2_with fail
    go_ret2
    exact ⟨rfl, hHeld⟩
end Go.Proofs.Ytelmndpelgbboaa
