import Derived.Test.YtgkdnhbhmebmeaaDoorPostG
/-! post: the ref's Right -/
namespace Go.Proofs.YtgkdnhbhmebmeaaDoor
open Go.RowKit Go.Cov
theorem node_any (n : Int) (w : World) : Calls Tryd.prog 42 #[.int .i64 n] w fun e w' => e = .returned (.bool (node n)) ∧ w = w' := by
  unfold node
  by_cases h1 : -1 ≤ n
  · by_cases h2 : n ≤ 6
    · go_enter Tryd.func42, Tryd.ntmps42
      go_wp2_with fail
      go_ret
      exact ⟨by rw [decide_eq_true ⟨h1, h2⟩]; simp, rfl⟩
    · go_enter Tryd.func42, Tryd.ntmps42
      go_wp2_with fail
      go_ret
      exact ⟨by rw [decide_eq_false (by omega)]; simp, rfl⟩
  · go_enter Tryd.func42, Tryd.ntmps42
    go_wp2_with fail
    go_ret
    exact ⟨by rw [decide_eq_false (by omega)]; rfl, rfl⟩
theorem span_any (n : Int) (w : World) : Calls Tryd.prog 43 #[.int .i64 n] w fun e w' => e = .returned (.bool (span n)) ∧ w = w' := by
  unfold span
  by_cases h1 : 0 ≤ n
  · by_cases h2 : n ≤ 1099511627776
    · go_enter Tryd.func43, Tryd.ntmps43
      go_wp2_with fail
      go_ret
      exact ⟨by rw [decide_eq_true ⟨h1, h2⟩]; simp, rfl⟩
    · go_enter Tryd.func43, Tryd.ntmps43
      go_wp2_with fail
      go_ret
      exact ⟨by rw [decide_eq_false (by omega)]; simp, rfl⟩
  · go_enter Tryd.func43, Tryd.ntmps43
    go_wp2_with fail
    go_ret
    exact ⟨by rw [decide_eq_false (by omega)]; rfl, rfl⟩
theorem rightM_of2 (o : Ma) : rightM o.data = (!(decide (o.n.1 < 1)) && (!(decide (12 < o.n.1)) && (node o.n.2.1 && (node o.n.2.2.1 && (span o.n.2.2.2.1 && (span o.n.2.2.2.2.1 && (span o.n.2.2.2.2.2.1 && (span o.n.2.2.2.2.2.2.2.1 && (rightL o.st (o.es.map En.data) && (decide (o.b.length ≤ 8192) && decide (o.chk.length ≤ 65536))))))))))) := by
  unfold rightM Ma.data
  dsimp only
  rw [rightLog_is]
  have e : decide (1 ≤ o.n.1 ∧ o.n.1 ≤ 12) = (!(decide (o.n.1 < 1)) && !(decide (12 < o.n.1))) := by
    by_cases h1 : o.n.1 < 1 <;> by_cases h2 : 12 < o.n.1 <;> simp [h1, h2] <;> omega
  rw [e]
  simp only [Bool.and_assoc]

set_option maxRecDepth 100000 in
set_option maxHeartbeats 6400000 in
theorem rpright_any {w : World} {o : Ma} (h : MaRd w o) :
    Calls Tryd.prog 17 #[o.val] w fun e w' => e = .returned (.bool (rightM o.data)) ∧ Below w.heap.size w w' := by
  have ba := below_alloc w (.cells o.cells.toArray 28)
  have R := Row.new w o.cells 28
  have K := rright_any (s := o.st) (h.below ba).lg
  have hbl := h.bc
  have hkl := h.kc
  obtain ⟨hb1, hb2⟩ := hbl
  obtain ⟨hk1, hk2⟩ := hkl
  unfold maxLen at hb2 hk2
  rw [rightM_of2]
  clear h
  generalize hL : o.es.map En.data = L at K
  clear hL
  obtain ⟨⟨n0, n1, n2, n3, n4, n5, n6, n7, n8, n9⟩, bA, bc, b, has, st, eA, ec, es, kA, kc, chk⟩ := o
  unfold Ma.cells at ba R K
  unfold Ma.val
  dsimp only at ba R K hb1 hk1 ⊢
  have jb : decide ((b.length : Int) ≤ 8192) = decide (b.length ≤ 8192) := by by_cases h : b.length ≤ 8192 <;> simp [h] <;> omega
  have jk : decide ((chk.length : Int) ≤ 65536) = decide (chk.length ≤ 65536) := by by_cases h : chk.length ≤ 65536 <;> simp [h] <;> omega
  generalize decide (b.length ≤ 8192) = x9 at jb
  generalize decide (chk.length ≤ 65536) = x10 at jk
  replace jb := hid jb
  replace jk := hid jk
  generalize rightL st L = x8 at K
  replace K := hid K
  have c0 := (R.2 0 _ rfl).1
  have c1 := (R.2 1 _ rfl).1
  have c2 := (R.2 2 _ rfl).1
  have c3 := (R.2 3 _ rfl).1
  have c4 := (R.2 4 _ rfl).1
  have c5 := (R.2 5 _ rfl).1
  have c7 := (R.2 7 _ rfl).1
  obtain ⟨y0, hy0⟩ : ∃ x, decide (n0 < 1) = x := ⟨_, rfl⟩
  obtain ⟨y1, hy1⟩ : ∃ x, decide (12 < n0) = x := ⟨_, rfl⟩
  rw [hy0, hy1]
  have K0 := fun W => node_any n1 W
  generalize node n1 = x2 at K0
  replace K0 := hid K0
  have K1 := fun W => node_any n2 W
  generalize node n2 = x3 at K1
  replace K1 := hid K1
  have K2 := fun W => span_any n3 W
  generalize span n3 = x4 at K2
  replace K2 := hid K2
  have K3 := fun W => span_any n4 W
  generalize span n4 = x5 at K3
  replace K3 := hid K3
  have K4 := fun W => span_any n5 W
  generalize span n5 = x6 at K4
  replace K4 := hid K4
  have K5 := fun W => span_any n7 W
  generalize span n7 = x7 at K5
  replace K5 := hid K5
  have fin : Hid (∀ W, Below (w.alloc (.cells #[.int .i64 n0, .int .i64 n1, .int .i64 n2, .int .i64 n3, .int .i64 n4, .int .i64 n5, .int .i64 n6, .int .i64 n7, .int .i64 n8, .int .i64 n9, .slice bA b.length bc, .bool has, .int .i64 st, .slice eA es.length ec, .slice kA chk.length kc] 28)).heap.size (w.alloc (.cells #[.int .i64 n0, .int .i64 n1, .int .i64 n2, .int .i64 n3, .int .i64 n4, .int .i64 n5, .int .i64 n6, .int .i64 n7, .int .i64 n8, .int .i64 n9, .slice bA b.length bc, .bool has, .int .i64 st, .slice eA es.length ec, .slice kA chk.length kc] 28)) W → Below w.heap.size w W) := hid (fun W h => below_step ba h)
  have R := hid R
  have ba := hid ba
  go_enter Tryd.func17, Tryd.ntmps17
  cases y0 with
  | true =>
    go_wp2_with fail
    go_ret
    exact ⟨rfl, ba.out⟩
  | false =>
    cases y1 with
    | true =>
      go_wp2_with fail
      go_ret
      exact ⟨rfl, ba.out⟩
    | false =>
      go_wp2_with fail
      refine (K0.out _).mono ?_
      rintro e w3 ⟨rfl, rfl⟩
      cases x2 with
      | false =>
        go_wp2_with fail
        go_ret
        exact ⟨rfl, ba.out⟩
      | true =>
        go_wp2_with fail
        refine (K1.out _).mono ?_
        rintro e w3 ⟨rfl, rfl⟩
        cases x3 with
        | false =>
          go_wp2_with fail
          go_ret
          exact ⟨rfl, ba.out⟩
        | true =>
          go_wp2_with fail
          refine (K2.out _).mono ?_
          rintro e w3 ⟨rfl, rfl⟩
          cases x4 with
          | false =>
            go_wp2_with fail
            go_ret
            exact ⟨rfl, ba.out⟩
          | true =>
            go_wp2_with fail
            refine (K3.out _).mono ?_
            rintro e w3 ⟨rfl, rfl⟩
            cases x5 with
            | false =>
              go_wp2_with fail
              go_ret
              exact ⟨rfl, ba.out⟩
            | true =>
              go_wp2_with fail
              refine (K4.out _).mono ?_
              rintro e w3 ⟨rfl, rfl⟩
              cases x6 with
              | false =>
                go_wp2_with fail
                go_ret
                exact ⟨rfl, ba.out⟩
              | true =>
                go_wp2_with fail
                refine (K5.out _).mono ?_
                rintro e w3 ⟨rfl, rfl⟩
                cases x7 with
                | false =>
                  go_wp2_with fail
                  go_ret
                  exact ⟨rfl, ba.out⟩
                | true =>
                  go_wp2_with fail
                  refine K.out.mono ?_
                  rintro e w2 ⟨rfl, hb2⟩
                  have R2 := R.out.below hb2
                  have c10 := (R2.2 10 _ rfl).1
                  have c14 := (R2.2 14 _ rfl).1
                  have b2 := fin.out w2 hb2
                  clear hb2
                  cases x8 with
                  | false =>
                    go_wp2_with fail
                    go_ret
                    exact ⟨rfl, b2⟩
                  | true =>
                    replace jb := jb.out
                    replace jk := jk.out
                    cases x9 with
                    | false =>
                      go_wp2_with fail
                      go_ret
                      exact ⟨rfl, b2⟩
                    | true =>
                      cases x10 with
                      | false =>
                        go_wp2_with fail
                        go_ret
                        exact ⟨rfl, b2⟩
                      | true =>
                        go_wp2_with fail
                        go_ret
                        exact ⟨rfl, b2⟩
end Go.Proofs.YtgkdnhbhmebmeaaDoor
