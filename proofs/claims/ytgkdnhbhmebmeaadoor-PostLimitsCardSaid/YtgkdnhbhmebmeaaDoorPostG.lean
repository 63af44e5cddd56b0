import Derived.Test.YtgkdnhbhmebmeaaDoorPostA
import Derived.Test.YtgkdnhbhmebmeaaDoorPostF
import Derived.Test.YtgkdnhbhmebmeaaDoorLogC
import Derived.Test.YtgkdnhbhmebmeaaDoorLogJ
import Derived.Test.YtgkdnhbhmebmeaaDoorPlain1
/-! post: a message in memory -/
namespace Go.Proofs.YtgkdnhbhmebmeaaDoor
open Go.RowKit Go.Cov
structure Ma where
  n : N10
  bA : Option Addr
  bc : Nat
  b : List UInt8
  has : Bool
  st : Int
  eA : Option Addr
  ec : Nat
  es : List En
  kA : Option Addr
  kc : Nat
  chk : List UInt8
def Ma.cells (o : Ma) : List Value := [.int .i64 o.n.1, .int .i64 o.n.2.1, .int .i64 o.n.2.2.1, .int .i64 o.n.2.2.2.1, .int .i64 o.n.2.2.2.2.1, .int .i64 o.n.2.2.2.2.2.1, .int .i64 o.n.2.2.2.2.2.2.1, .int .i64 o.n.2.2.2.2.2.2.2.1, .int .i64 o.n.2.2.2.2.2.2.2.2.1, .int .i64 o.n.2.2.2.2.2.2.2.2.2, .slice o.bA o.b.length o.bc, .bool o.has, .int .i64 o.st, .slice o.eA o.es.length o.ec, .slice o.kA o.chk.length o.kc]
def Ma.val (o : Ma) : Value := .agg #[.int .i64 o.n.1, .int .i64 o.n.2.1, .int .i64 o.n.2.2.1, .int .i64 o.n.2.2.2.1, .int .i64 o.n.2.2.2.2.1, .int .i64 o.n.2.2.2.2.2.1, .int .i64 o.n.2.2.2.2.2.2.1, .int .i64 o.n.2.2.2.2.2.2.2.1, .int .i64 o.n.2.2.2.2.2.2.2.2.1, .int .i64 o.n.2.2.2.2.2.2.2.2.2, .slice o.bA o.b.length o.bc, .bool o.has, .int .i64 o.st, .slice o.eA o.es.length o.ec, .slice o.kA o.chk.length o.kc]
def Ma.data (o : Ma) : MD := (o.n, o.b, o.has, o.st, o.es.map En.data, o.chk)
/-- what it leads to can be read -/
structure MaRd (w : World) (o : Ma) : Prop where
  b : Rd w o.bA (o.b.map byt)
  e : Els enEl w o.eA o.es
  k : Rd w o.kA (o.chk.map byt)
  bc : o.b.length ≤ o.bc ∧ o.bc ≤ maxLen
  ec : o.es.length ≤ o.ec ∧ o.ec ≤ maxLen
  kc : o.chk.length ≤ o.kc ∧ o.kc ≤ maxLen
theorem MaRd.below {w w' : World} {o : Ma} (h : MaRd w o) (hb : Below w.heap.size w w') : MaRd w' o := ⟨h.b.below hb, h.e.below hb, h.k.below hb, h.bc, h.ec, h.kc⟩
theorem log_is (s : Int) (L : EL) : (atL s L s).isSome = rightL s L := by
  unfold atL
  by_cases h : rightL s L = true
  · rw [if_pos ⟨h, Int.le_refl _, by omega⟩, h]; rfl
  · rw [if_neg (fun hh => h hh.1)]
    have : rightL s L = false := by simpa using h
    rw [this]; rfl
theorem rightLog_is (s : Int) (L : EL) : rightLog s L = rightL s L := by
  unfold rightLog rightL
  have e : L.all (fun x => decide (x.2.2.length ≤ 8192)) = !badE L := by
    unfold badE
    induction L with
    | nil => rfl
    | cons x L ih =>
      rw [List.all_cons, List.any_cons, ih, Bool.not_or]
      by_cases h : x.2.2.length ≤ 8192
      · rw [decide_eq_true h, decide_eq_false (by omega)]; rfl
      · rw [decide_eq_false h, decide_eq_true (by omega)]; rfl
  rw [e]
  by_cases h1 : 0 ≤ s <;> by_cases h2 : L.length ≤ 64 <;> by_cases h3 : s ≤ 1099511627776 - (L.length : Int) <;> simp [h1, h2, h3]
theorem betw1 (l h a : Int) : betw l h [a] = decide (l ≤ a ∧ a ≤ h) := by unfold betw; simp
theorem rightM_of (o : Ma) : rightM o.data = (rightL o.st (o.es.map En.data) && (betw 1 12 [o.n.1] && (betw (-1) 6 [o.n.2.1, o.n.2.2.1] && (betw 0 1099511627776 [o.n.2.2.2.1, o.n.2.2.2.2.1, o.n.2.2.2.2.2.1, o.n.2.2.2.2.2.2.2.1] && (decide (o.b.length ≤ 8192) && decide (o.chk.length ≤ 65536)))))) := by
  unfold rightM Ma.data
  dsimp only
  rw [rightLog_is]
  unfold betw node span
  simp only [List.all_cons, List.all_nil, Bool.and_true]
  generalize rightL o.st (o.es.map En.data) = x0
  generalize decide (1 ≤ o.n.1 ∧ o.n.1 ≤ 12) = x1
  generalize decide (-1 ≤ o.n.2.1 ∧ o.n.2.1 ≤ 6) = x2
  generalize decide (-1 ≤ o.n.2.2.1 ∧ o.n.2.2.1 ≤ 6) = x3
  generalize decide (0 ≤ o.n.2.2.2.1 ∧ o.n.2.2.2.1 ≤ 1099511627776) = x4
  generalize decide (0 ≤ o.n.2.2.2.2.1 ∧ o.n.2.2.2.2.1 ≤ 1099511627776) = x5
  generalize decide (0 ≤ o.n.2.2.2.2.2.1 ∧ o.n.2.2.2.2.2.1 ≤ 1099511627776) = x6
  generalize decide (0 ≤ o.n.2.2.2.2.2.2.2.1 ∧ o.n.2.2.2.2.2.2.2.1 ≤ 1099511627776) = x7
  generalize decide (o.b.length ≤ 8192) = x8
  generalize decide (o.chk.length ≤ 65536) = x9
  cases x0 <;> cases x1 <;> cases x2 <;> cases x3 <;> cases x4 <;> cases x5 <;> cases x6 <;> cases x7 <;> cases x8 <;> cases x9 <;> rfl
theorem MaRd.lg {w : World} {o : Ma} (h : MaRd w o) : Lg w o.eA o.ec o.es (o.es.map En.data) := ⟨h.e, h.ec.1, rfl⟩
set_option maxRecDepth 100000 in
set_option maxHeartbeats 6400000 in
theorem pright_any {w : World} {o : Ma} (h : MaRd w o) :
    Calls Tryd.prog 16 #[o.val] w fun e w' => e = .returned (.bool (rightM o.data)) ∧ Below w.heap.size w w' := by
  have ba := below_alloc w (.cells o.cells.toArray 28)
  have R := Row.new w o.cells 28
  have K := from_any (s := o.st) (h.below ba).lg o.st
  rw [log_is] at K
  have hbl := h.bc
  have hkl := h.kc
  obtain ⟨hb1, hb2⟩ := hbl
  obtain ⟨hk1, hk2⟩ := hkl
  unfold maxLen at hb2 hk2
  rw [rightM_of]
  clear h
  generalize hL : o.es.map En.data = L at K
  clear hL
  obtain ⟨⟨n0, n1, n2, n3, n4, n5, n6, n7, n8, n9⟩, bA, bc, b, has, st, eA, ec, es, kA, kc, chk⟩ := o
  unfold Ma.cells at ba R K
  unfold Ma.val
  dsimp only at ba R K hb1 hk1 ⊢
  replace K := hid K
  have jb : decide ((b.length : Int) ≤ 8192) = decide (b.length ≤ 8192) := by by_cases h : b.length ≤ 8192 <;> simp [h] <;> omega
  have jk : decide ((chk.length : Int) ≤ 65536) = decide (chk.length ≤ 65536) := by by_cases h : chk.length ≤ 65536 <;> simp [h] <;> omega
  generalize decide (b.length ≤ 8192) = x8 at jb
  generalize decide (chk.length ≤ 65536) = x9 at jk
  replace jb := hid jb
  replace jk := hid jk
  generalize rightL st L = x0 at K
  obtain ⟨x1, hx1⟩ : ∃ x, betw 1 12 [n0] = x := ⟨_, rfl⟩
  obtain ⟨x2, hx2⟩ : ∃ x, betw (-1) 6 [n1, n2] = x := ⟨_, rfl⟩
  obtain ⟨x3, hx3⟩ : ∃ x, betw 0 1099511627776 [n3, n4, n5, n7] = x := ⟨_, rfl⟩
  rw [hx1, hx2, hx3]
  replace hx1 := hid hx1
  replace hx2 := hid hx2
  replace hx3 := hid hx3
  go_enter Tryd.func16, Tryd.ntmps16
  go_wp2_with fail
  refine K.out.mono ?_
  rintro e w2 ⟨C, q, ys, rfl, _, _, hb2⟩
  have R2 := R.below hb2
  replace hb2 := below_step ba hb2
  cases x0 with
  | false =>
    go_wp2_with fail
    go_ret
    exact ⟨rfl, hb2⟩
  | true =>
    have c0 := (R2.2 0 _ rfl).1
    have b3 := below_alloc w2 (.cells #[.int .i64 n0] 22)
    have R3 := R2.below b3
    have D3 := rd_box w2 #[.int .i64 n0] 22
    go_wp2_with fail
    have KK := between_kind (c := 1) (ns := [n0]) 1 12 1 rfl D3 (by omega)
    rw [hx1.out] at KK
    refine KK.mono ?_
    rintro e w3 ⟨rfl, rfl⟩
    clear KK
    clear D3
    replace b3 := below_step hb2 b3
    generalize w2.alloc (.cells #[.int .i64 n0] 22) = w3 at b3 R3 ⊢
    clear R2 c0
    cases x1 with
    | false =>
      go_wp2_with fail
      go_ret
      exact ⟨rfl, b3⟩
    | true =>
      have c1 := (R3.2 1 _ rfl).1
      have c2 := (R3.2 2 _ rfl).1
      have b4 := below_alloc w3 (.cells #[.int .i64 n1, .int .i64 n2] 3)
      have R4 := R3.below b4
      have D4 := rd_box w3 #[.int .i64 n1, .int .i64 n2] 3
      go_wp2_with fail
      have KK := between_int (c := 2) (ns := [n1, n2]) (-1) 6 2 rfl D4 (by omega)
      rw [hx2.out] at KK
      refine KK.mono ?_
      rintro e w4 ⟨rfl, rfl⟩
      clear KK
      clear D4
      replace b4 := below_step b3 b4
      generalize w3.alloc (.cells #[.int .i64 n1, .int .i64 n2] 3) = w4 at b4 R4 ⊢
      clear R3 c1 c2
      cases x2 with
      | false =>
        go_wp2_with fail
        go_ret
        exact ⟨rfl, b4⟩
      | true =>
        have c3 := (R4.2 3 _ rfl).1
        have c4 := (R4.2 4 _ rfl).1
        have c5 := (R4.2 5 _ rfl).1
        have c7 := (R4.2 7 _ rfl).1
        have b5 := below_alloc w4 (.cells #[.int .i64 n3, .int .i64 n4, .int .i64 n5, .int .i64 n7] 2)
        have R5 := R4.below b5
        have D5 := rd_box w4 #[.int .i64 n3, .int .i64 n4, .int .i64 n5, .int .i64 n7] 2
        go_wp2_with fail
        have KK := between_i64 (c := 4) (ns := [n3, n4, n5, n7]) 0 1099511627776 4 rfl D5 (by omega)
        rw [hx3.out] at KK
        refine KK.mono ?_
        rintro e w5 ⟨rfl, rfl⟩
        clear KK
        clear D5
        replace b5 := below_step b4 b5
        generalize w4.alloc (.cells #[.int .i64 n3, .int .i64 n4, .int .i64 n5, .int .i64 n7] 2) = w5 at b5 R5 ⊢
        clear R4 c3 c4 c5 c7
        cases x3 with
        | false =>
          go_wp2_with fail
          go_ret
          exact ⟨rfl, b5⟩
        | true =>
          have c10 := (R5.2 10 _ rfl).1
          have c13 := (R5.2 13 _ rfl).1
          have c14 := (R5.2 14 _ rfl).1
          replace jb := jb.out
          replace jk := jk.out
          cases x8 with
          | false =>
            go_wp2_with fail
            go_ret
            exact ⟨rfl, b5⟩
          | true =>
            cases x9 with
            | false =>
              go_wp2_with fail
              go_ret
              exact ⟨rfl, b5⟩
            | true =>
              go_wp2_with fail
              go_ret
              exact ⟨rfl, b5⟩
end Go.Proofs.YtgkdnhbhmebmeaaDoor
