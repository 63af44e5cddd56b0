import Derived.Test.YtlekoeddcjjjdaaJourA
namespace Go.Proofs.Ytlekoeddcjjjdaa
open Go.RowKit Go.Cov Go.Lib
variable {Bk : Nat → Prop}
theorem ga_new {w w' : World} (hB : ∀ k, w.heap.size ≤ k → Bk k) {jb : Nat} {uv : Value} {base : Nat} {e : TypeId} {size n : Nat} {fs : List Value} (h6 : jb < w.heap.size) (h9 : w.ownsRow base e size uv n fs) {C : Option Addr} (h : ∀ ad, C = some ad → w.heap.size ≤ ad.block ∧ ad.block < w'.heap.size) : GA Bk w' jb uv C := fun ad hA =>
  ⟨(h ad hA).2, by have := (h ad hA).1; omega, fun he => by have := (own_lt h9 he).2; have := (h ad hA).1; omega, hB _ (h ad hA).1⟩
theorem jn_size {w : World} {base jb : Nat} {hist : List PL} {cur : PL} (h : JnB Bk w base jb hist cur) : base ≤ w.heap.size := by
  obtain ⟨_, _, _, _, _, _, h, _⟩ := h; omega
set_option maxHeartbeats 800000 in
theorem jget_any {w : World} {base jb : Nat} {hist : List PL} {cur : PL} {B : Option Addr} {d : Nat} {m : List UInt8} (h : JnB Bk w base jb hist cur) (hk : Okay cur) (g : Rd w B (m.map byt)) :
    Calls Try.prog 18 #[.pointer (some ⟨jb, 0, none⟩), .slice B m.length d] w fun e w' => ∃ D k r, e = .returned (.tuple #[.slice D (r : List UInt8).length k, .bool (getP cur m).isSome]) ∧ (getP cur m).getD [] = r ∧ Rd w' D (r.map byt) ∧ Below w.heap.size w w' := by
  obtain ⟨A, c, xs, uv, fs, ⟨h1, h2, h3, h4⟩, ⟨h5, h6, h7, hq⟩, h8, h9, h10⟩ := h
  have K := hid (get_st (c := c) (d := d) h8.1 hk g)
  go_enter Try.func18, Try.ntmps18
  go_wp2_with fail
  refine K.out.mono ?_
  rintro e w2 ⟨D, k, r, rfl, hr, hrd, hb⟩
  go_wp2_with fail
  go_ret2
  exact ⟨D, k, r, rfl, hr, hrd, hb⟩
theorem jmark_any {w : World} {base jb : Nat} {hist : List PL} {cur : PL} (h : JnB Bk w base jb hist cur) :
    Calls Try.prog 20 #[.pointer (some ⟨jb, 0, none⟩)] w fun e w' => e = .returned (.int .i64 (hist.length : Nat)) ∧ w' = w := by
  obtain ⟨A, c, xs, uv, fs, ⟨h1, h2, h3, h4⟩, ⟨h5, h6, h7, hq⟩, h8, h9, h10⟩ := h
  obtain ⟨U, q, rfl, _⟩ := own_shape h9
  go_enter Try.func20, Try.ntmps20
  go_wp2_with fail
  go_ret
  exact ⟨rfl, rfl⟩
set_option maxHeartbeats 800000 in
theorem jdel_k {w : World} {base jb : Nat} {hist : List PL} {cur : PL} {B : Option Addr} {d : Nat} {m : List UInt8} (h : JnB Bk w base jb hist cur) (hB : ∀ k, w.heap.size ≤ k → Bk k) (hk : Okay cur) (hn : hist.length ≤ 100000) (g : Rd w B (m.map byt)) :
    Calls Try.prog 14 #[.pointer (some ⟨jb, 0, none⟩), .slice B m.length d] w fun e w' => (∃ v, e = .returned v) ∧ JnB Bk w' base jb (hist ++ [cur]) (delP cur m) ∧ Below base w w' ∧ Keep w w' jb := by
  have hsz := jn_size h
  have hj := h
  obtain ⟨A, c, xs, uv, fs, ⟨h1, h2, h3, h4⟩, ⟨h5, h6, h7, hq⟩, h8, h9, h10⟩ := h
  have K := hid (del_pv (c := c) (d := d) h8.1 hk g)
  go_enter Try.func14, Try.ntmps14
  go_wp2_with fail
  refine K.out.mono ?_
  rintro e w2 ⟨C, q, ys, rfl, hs, hC, hpv, hb⟩
  have KS := hid (set_k (hj.below hb) (fun k hk => hB k (Nat.le_trans hb.size hk)) (Nat.le_trans hsz hb.size) hn (B := C) (d := q) (ys := ys) (L := delP cur m) (fun uv' hu => by
    have : uv' = uv := Option.some.inj (hu.symm.trans (cell_on hb h2))
    subst this
    exact ⟨hs, ga_new hB h6 h9 hC, fun y hy => ⟨(h8.2.2 y (hpv y hy)).1.below hb, (h8.2.2 y (hpv y hy)).2.below hb⟩⟩))
  go_wp2_with fail
  refine KS.out.mono ?_
  rintro e w3 ⟨⟨v, rfl⟩, hj3, hb3, hk3⟩
  go_wp2_with fail
  refine bodyPost_end (results_none rfl _ _ _) rfl ?_
  exact ⟨⟨_, rfl⟩, hj3, (hb.mono hsz).trans hb3, (hj.old hb).trans hk3⟩
theorem put_big {A B V : Option Addr} {n c d f : Nat} {m v : List UInt8} {w : World} (hbig : 64 < m.length ∨ 256 < v.length) :
    Calls Try.prog 29 #[.slice A n c, .slice B m.length d, .slice V v.length f] w fun e w' => e = .returned (.tuple #[.slice none 0 0, .int .i64 1]) ∧ Below w.heap.size w w' := by
  have b1 := below_alloc w (.cells #[.slice B m.length d] 30)
  have H := hid (show (64 : Int) < m.length ∨ ¬ (64 : Int) < m.length ∧ (256 : Int) < v.length by omega)
  clear hbig
  rcases H.out with j1 | ⟨j1, j2⟩
  all_goals
    go_enter Try.func29, Try.ntmps29
    go_wp2_with fail
    go_ret2
    exact ⟨rfl, b1⟩
theorem put_pv0 {A B V : Option Addr} {c d f : Nat} {xs : List Pr} {L : PL} {m v : List UInt8} {w : World} (h : St w A c xs L) (hk : Okay L) (g : Rd w B (m.map byt)) (gv : Rd w V (v.map byt)) :
    Calls Try.prog 29 #[.slice A xs.length c, .slice B m.length d, .slice V v.length f] w fun e w' => ∃ C q ys, e = .returned (.tuple #[.slice C (ys : List Pr).length q, .int .i64 (putR L m v).2]) ∧ St w' C q ys (putR L m v).1 ∧ (∀ ad, C = some ad → w.heap.size ≤ ad.block ∧ ad.block < w'.heap.size) ∧ (∀ y ∈ ys, y ∈ xs ∨ PrNew w.heap.size w'.heap.size y) ∧ Below w.heap.size w w' := by
  by_cases hbig : 64 < m.length ∨ 256 < v.length
  · refine (put_big hbig).mono ?_
    have hp : putR L m v = ([], 1) := by rw [putR, if_pos hbig]
    rw [hp]
    rintro e w' ⟨rfl, hb⟩
    exact ⟨none, 0, [], rfl, ⟨Els.nil _ _ _, Nat.le_refl 0, rfl⟩, fun ad hA => (by cases hA), fun y hy => (by cases hy), hb⟩
  · exact put_pv h hk g (by omega) gv (by omega)
/-- what a put makes of a journal -/
def jput (hist : List PL) (cur : PL) (m v : List UInt8) : List PL × PL := if (putR cur m v).2 = 0 then (hist ++ [cur], (putR cur m v).1) else (hist, cur)
set_option maxHeartbeats 1600000 in
theorem jput_k {w : World} {base jb : Nat} {hist : List PL} {cur : PL} {B V : Option Addr} {d f : Nat} {m v : List UInt8} (h : JnB Bk w base jb hist cur) (hB : ∀ k, w.heap.size ≤ k → Bk k) (hk : Okay cur) (hn : hist.length ≤ 100000) (g : Rd w B (m.map byt)) (gv : Rd w V (v.map byt)) :
    Calls Try.prog 12 #[.pointer (some ⟨jb, 0, none⟩), .slice B m.length d, .slice V v.length f] w fun e w' => e = .returned (.int .i64 (putR cur m v).2) ∧ JnB Bk w' base jb (jput hist cur m v).1 (jput hist cur m v).2 ∧ Below base w w' ∧ Keep w w' jb := by
  have hsz := jn_size h
  have hj := h
  obtain ⟨A, c, xs, uv, fs, ⟨h1, h2, h3, h4⟩, ⟨h5, h6, h7, hq⟩, h8, h9, h10⟩ := h
  have K := put_pv0 (c := c) (d := d) (f := f) h8.1 hk g gv
  unfold jput
  obtain ⟨M, er, hM⟩ : ∃ M er, putR cur m v = (M, er) := ⟨_, _, rfl⟩
  rw [hM] at K ⊢
  dsimp only at K ⊢
  have KP := hid K
  clear K hM
  by_cases he : er = 0
  · rw [if_pos he]
    subst he
    go_enter Try.func12, Try.ntmps12
    go_wp2_with fail
    refine KP.out.mono ?_
    rintro e w2 ⟨C, q, ys, rfl, hs, hC, hpv, hb⟩
    have KS := hid (set_k (hj.below hb) (fun k hk => hB k (Nat.le_trans hb.size hk)) (Nat.le_trans hsz hb.size) hn (B := C) (d := q) (ys := ys) (L := M) (fun uv' hu => by
      have : uv' = uv := Option.some.inj (hu.symm.trans (cell_on hb h2))
      subst this
      refine ⟨hs, ga_new hB h6 h9 hC, fun y hy => ?_⟩
      rcases hpv y hy with hy | hy
      · exact ⟨(h8.2.2 y hy).1.below hb, (h8.2.2 y hy).2.below hb⟩
      · exact ⟨ge_of (ga_new hB h6 h9 hy.1), ge_of (ga_new hB h6 h9 hy.2)⟩))
    go_wp2_with fail
    refine KS.out.mono ?_
    rintro e w3 ⟨⟨v3, rfl⟩, hj3, hb3, hk3⟩
    go_wp2_with fail
    go_ret
    exact ⟨rfl, hj3, (hb.mono hsz).trans hb3, (hj.old hb).trans hk3⟩
  · rw [if_neg he]
    have q1 : (er == 0) = false := by simpa using he
    clear he
    go_enter Try.func12, Try.ntmps12
    go_wp2_with fail
    refine KP.out.mono ?_
    rintro e w2 ⟨C, q, ys, rfl, hs, hC, hpv, hb⟩
    go_wp2_with fail
    go_ret
    exact ⟨rfl, hj.below hb, hb.mono hsz, hj.old hb⟩
theorem jdel_any {w : World} {base jb : Nat} {hist : List PL} {cur : PL} {B : Option Addr} {d : Nat} {m : List UInt8} (h : Jn w base jb hist cur) (hk : Okay cur) (hn : hist.length ≤ 100000) (g : Rd w B (m.map byt)) :
    Calls Try.prog 14 #[.pointer (some ⟨jb, 0, none⟩), .slice B m.length d] w fun e w' => (∃ v, e = .returned v) ∧ Jn w' base jb (hist ++ [cur]) (delP cur m) ∧ Below base w w' :=
  (jdel_k h (fun _ _ => trivial) hk hn g).mono fun _ _ h => ⟨h.1, h.2.1, h.2.2.1⟩
theorem jputt_any {w : World} {base jb : Nat} {hist : List PL} {cur : PL} {B V : Option Addr} {d f : Nat} {m v : List UInt8} (h : Jn w base jb hist cur) (hk : Okay cur) (hn : hist.length ≤ 100000) (g : Rd w B (m.map byt)) (gv : Rd w V (v.map byt)) :
    Calls Try.prog 12 #[.pointer (some ⟨jb, 0, none⟩), .slice B m.length d, .slice V v.length f] w fun e w' => e = .returned (.int .i64 (putR cur m v).2) ∧ Jn w' base jb (jput hist cur m v).1 (jput hist cur m v).2 ∧ Below base w w' :=
  (jput_k h (fun _ _ => trivial) hk hn g gv).mono fun _ _ h => ⟨h.1, h.2.1, h.2.2.1⟩
end Go.Proofs.Ytlekoeddcjjjdaa
