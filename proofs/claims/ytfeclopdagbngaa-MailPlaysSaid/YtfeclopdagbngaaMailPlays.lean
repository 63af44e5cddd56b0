import Derived.Test.YtfeclopdagbngaaMailRef2
import Derived.Deep.RegionWith
namespace Go.Proofs.Ytfeclopdagbngaa
open Go.RowKit Go.Conc Go.Cov

def opc (o : Int × Int) : List Value := [.int .i64 o.1, .int .i64 o.2]
theorem opc_len (a : Int × Int) : (opc a).length = 2 := rfl
structure Play (B g b c cap : Nat) (w : World) (v : Value) (l : List Int) (W : World) : Prop where
  box : Box W b c cap 57 (iv l)
  ref : RefB W B g cap v l
  room : l.length ≤ cap
  bel : Below w.heap.size w W
  lt : b < g ∧ c < g ∧ w.heap.size ≤ c ∧ w.heap.size ≤ b
theorem rd_op {w : World} {A : Option Addr} {l : List (Int × Int)} (h : Rd w A (l.flatMap opc)) {n : Nat} (hn : n < l.length) :
    ∃ ad, A = some ad ∧ w.cell? (ad.add (n * 2)) = some (.int .i64 l[n].1) ∧ w.cell? ⟨(ad.add (n * 2)).block, (ad.add (n * 2)).off + 1, none⟩ = some (.int .i64 l[n].2) := by
  have key : ∀ (l : List (Int × Int)) (n : Nat) (hn : n < l.length), (l.flatMap opc)[n * 2]? = some (.int .i64 l[n].1) ∧ (l.flatMap opc)[n * 2 + 1]? = some (.int .i64 l[n].2) := by
    intro l
    induction l with
    | nil => intro n hn; simp at hn
    | cons o l ih =>
      intro n hn
      cases n with
      | zero => exact ⟨rfl, rfl⟩
      | succ n =>
        have := ih n (by simpa using hn)
        simp only [List.flatMap_cons, opc, List.cons_append, List.nil_append, Nat.add_mul, Nat.one_mul, List.getElem_cons_succ]
        exact this
  obtain ⟨ad, hA, h1⟩ := h _ _ (key l n hn).1
  obtain ⟨ad', hA', h2⟩ := h _ _ (key l n hn).2
  rw [hA] at hA'
  cases hA'
  exact ⟨ad, hA, h1, by rw [← add_add'] at h2; exact h2⟩
theorem Play.drewN {B g b c cap : Nat} {w : World} {v : Value} {l : List Int} {W : World} (h : Play B g b c cap w v l W) (n : Nat) : Play B g b c cap w v l (W.drewN n) :=
  ⟨h.box, h.ref.drewN n, h.room, ⟨h.bel.os, h.bel.tape, h.bel.output, h.bel.size, h.bel.block⟩, h.lt⟩

theorem quiet_l {P : Program} {f : FuncId} {args : Array Value} {w : World} {n : Nat} {v : Value}
    (h : Calls P f args (w.drewN n) fun e w' => e = .returned v ∧ w.drewN n = w') : Calls P f args (w.drewN n) fun e w'' => e = .returned v ∧ ∃ m, w'' = w.drewN m :=
  h.mono fun _ _ ⟨he, hm⟩ => ⟨he, n, hm.symm⟩
theorem quiet_e {P : Program} {f : FuncId} {args : Array Value} {w : World} {n : Nat} {v : Value}
    (h : Calls P f args (w.drewN n) fun e w' => e = .returned v ∧ ∃ m, w' = (w.drewN n).drewN m) : Calls P f args (w.drewN n) fun e w'' => e = .returned v ∧ ∃ m, w'' = w.drewN m :=
  h.mono fun _ _ ⟨he, m, hm⟩ => ⟨he, n + m, by rw [hm]; simp [World.drewN, Nat.add_assoc]⟩
theorem Box.under {w w' : World} {b c cap g : Nat} {t : TypeId} {l : List Value} (h : Box w b c cap t l) (hb : Below g w w') (h1 : b < g) (h2 : c < g) : Box w' b c cap t l := by
  obtain ⟨a, s, r, d⟩ := h
  exact ⟨(hb.block b h1).trans a, s, r, (hb.block c h2).trans d⟩
set_option maxRecDepth 100000 in
set_option maxHeartbeats 1600000 in
theorem plays_walk (room : Int) (h0 : 1 ≤ room) (h1 : room ≤ 1024) (A1 : Option Addr) (c1 : Nat) (l : List (Int × Int)) (w : World)
    (hl : Rd w A1 (l.flatMap opc)) (hn : l.length ≤ 3000) :
    Calls Try.prog 4 #[.int .i64 room, .slice A1 l.length c1] w fun e w' => e = .returned (.bool true) ∧ Below w.heap.size w w' := by
  obtain ⟨cap, rfl⟩ := Int.eq_ofNat_of_zero_le (show 0 ≤ room by omega)
  go_enter Try.func4, Try.ntmps4
  go_wp2_with fail
  refine (head_any _).mono ?_
  rintro e w1 ⟨rfl, hb1⟩
  go_wp2_with fail
  refine (new_ok_i cap (by omega) (by omega) _).mono ?_
  rintro e w2 ⟨rfl, hbox2, hb2⟩
  rw [Int.toNat_natCast] at hbox2
  go_wp2_with fail
  refine (rnew_ok cap (by omega) (by omega) _).mono ?_
  rintro e w3 ⟨rfl, href3, hb3⟩
  rw [Int.toNat_natCast] at href3
  have P3 : Play (w2.heap.size + 1) w2.heap.size (w1.heap.size + 1) w1.heap.size cap w (.slice none 0 0) [] w3 :=
    ⟨hbox2.below hb3, href3, by simp, (hb1.trans (hb2.mono hb1.size)).trans (hb3.mono (by have := hb1.size; have := hb2.size; omega)), by have := hbox2.lt; have := hb1.size; omega⟩
  go_wp2_with fail
  go_loopg [8] l.length (fun k i W => ∃ (n : Nat) (v : Value) (q : List Int), k = l.length - n ∧ n ≤ l.length ∧ i = .int .i64 n ∧ Play (w2.heap.size + 1) w2.heap.size (w1.heap.size + 1) w1.heap.size cap w v q W)
  case atStart => exact ⟨0, _, [], by simp, by omega, rfl, P3⟩
  case round =>
    obtain ⟨n, v, q, rfl, hnl, rfl, P⟩ := hrel
    by_cases hlt : n < l.length
    · obtain ⟨ad, rfl, hc0, hc1⟩ := rd_op hl hlt
      have hcw0 : ∀ W, Below w.heap.size w W → W.cell? (ad.add (n * 2)) = some (.int .i64 l[n].1) := fun W hW => (hW.cell (cell_lt hc0)).trans hc0
      have hcw1 : ∀ W, Below w.heap.size w W → W.cell? ⟨(ad.add (n * 2)).block, (ad.add (n * 2)).off + 1, none⟩ = some (.int .i64 l[n].2) := fun W hW => (hW.cell (cell_lt hc1)).trans hc1
      generalize l[n].1 = what at hcw0
      generalize l[n].2 = x at hcw1
      have hr0 := hcw0 wr P.bel
      have hmeas : l.length - (n + 1) < l.length - n := by omega
      cases h1 : (bits .and .i64 what 3 == 1)
      · cases h2 : (bits .and .i64 what 3 == 2)
        · by_cases hroom : q.length < cap
          · have PB : Play (w2.heap.size + 1) w2.heap.size (w1.heap.size + 1) w1.heap.size cap w v q wr.drew := P.drewN 1
            have hx0 := hcw1 wr P.bel
            go_wp2_with fail
            go_region_with (first
              | (go_at_call 18; refine (put_yes_i PB.box (.int .i64 x) (by simpa [iv] using hroom)).mono ?_; rintro e w4 ⟨rfl, hbox4, hg4⟩; have hB4 : Below w.heap.size w w4 := PB.bel.grown hg4 (by have := PB.bel.size; omega) (by intro k hk; cases hk; exact P.lt.2.2.1); have hx4 := hcw1 w4 hB4; have href4 := PB.ref.kept hg4 (by intro hh; injection hh with hh; have := P.lt; omega) (by intro k hk; cases hk; have := P.lt; have := P.ref.lt; omega))
              | (go_at_call 19; refine (rput_yes href4 x hroom (by omega)).mono ?_; rintro e w5 ⟨rfl, v5, href5, hg5⟩))
            all_goals
              have P5 : Play (w2.heap.size + 1) w2.heap.size (w1.heap.size + 1) w1.heap.size cap w v5 (q ++ [x]) w5 :=
                ⟨by have h := hbox4.under hg5 P.lt.1 P.lt.2.1; rwa [show iv q ++ [Value.int .i64 x] = iv (q ++ [x]) by simp [iv]] at h, href5, by simp; omega, hB4.trans (hg5.mono (by have := P.lt; omega)), P.lt⟩
              obtain ⟨A5, c5, hv5, _⟩ := own_shape P5.ref.own
              subst hv5
              have c05 := P5.ref.c0
              have hiv : (iv (q ++ [x])).length = (q ++ [x]).length := by simp [iv]
              go_wp2_with fail
              go_quiet ((go_at_call 20; exact quiet_l (hiv ▸ len_any_i (P5.drewN _).box)))
              go_wp2_with fail
              go_roundg (l.length - (n + 1))
              case rel => exact ⟨n + 1, _, _, rfl, by omega, by go_num, P5.drewN _⟩
              case measure => exact hmeas
          · have hx0 := hcw1 wr P.bel
            go_wp2_with fail
            go_quiet ((first
              | (go_at_call 18; exact quiet_l (put_no_i (P.drewN _).box (.int .i64 x) (by simpa [iv] using hroom)))
              | (go_at_call 19; exact quiet_e (rput_no (P.drewN _).ref x (by omega)))))
            generalize hw5 : wr.drewN nq = w5
            have P5 : Play (w2.heap.size + 1) w2.heap.size (w1.heap.size + 1) w1.heap.size cap w v q w5 := by rw [← hw5]; exact P.drewN _
            clear hw5
            obtain ⟨A5, c5, hv5, _⟩ := own_shape P5.ref.own
            subst hv5
            have c05 := P5.ref.c0
            have hiv : (iv q).length = q.length := by simp [iv]
            go_wp2_with fail
            go_quiet ((go_at_call 20; exact quiet_l (hiv ▸ len_any_i (P5.drewN _).box)))
            go_wp2_with fail
            go_roundg (l.length - (n + 1))
            case rel => exact ⟨n + 1, _, _, rfl, by omega, by go_num, P5.drewN _⟩
            case measure => exact hmeas
        · go_wp2_with fail
          refine (all_any_i P.box (by have := P.room; omega)).mono ?_
          rintro e w4 ⟨va, rfl, ha4, hbox4, hg4⟩
          obtain ⟨Aa, ca, rfl, _⟩ := own_shape ha4
          have href4 := P.ref.kept hg4 (by intro hh; injection hh with hh; have := P.lt; omega) (by intro k hk; cases hk; have := P.lt; have := P.ref.lt; omega)
          go_wp2_with fail
          refine (rall_any href4).mono ?_
          obtain ⟨Ab, cb, hvb, _⟩ := own_shape P.ref.own
          subst hvb
          rintro e w5 ⟨rfl, href5, hg5⟩
          have hr1 := own_rd (ha4.kept hg5 (.inr (fun hh => own_ne ha4 (show w2.heap.size < wr.heap.size by have := P.ref.lt; omega) hh.symm)))
          have hr2 := own_rd (href4.own.kept hg5 (.inr (fun hh => own_ne href4.own href4.lt.1 hh.symm)))
          go_wp2_with fail
          refine (same_yes Aa Ab ca cb q _ hr1 hr2 (by have := P.room; omega)).mono ?_
          rintro e w6 ⟨rfl, nq, hw6⟩
          have P5 : Play (w2.heap.size + 1) w2.heap.size (w1.heap.size + 1) w1.heap.size cap w (.slice none 0 0) [] w6 := by
            rw [hw6]
            have hB4 : Below w.heap.size w w4 := P.bel.grown hg4 (by have := P.bel.size; omega) (by intro k hk; cases hk; exact P.lt.2.2.1)
            have hB5 : Below w.heap.size w w5 := hB4.grown hg5 (by have := P.bel.size; have := hg4.size; omega) (by intro k hk; cases hk; have := P.lt; omega)
            exact Play.drewN ⟨hbox4.kept hg5 (by intro hh; injection hh with hh; have := P.lt; omega) (by intro hh; injection hh with hh; have := P.lt; omega), href5, Nat.zero_le _, hB5, P.lt⟩ nq
          clear hw6
          have c05 := P5.ref.c0
          have hiv : (iv ([] : List Int)).length = ([] : List Int).length := by simp [iv]
          go_wp2_with fail
          go_quiet ((go_at_call 20; exact quiet_l (hiv ▸ len_any_i (P5.drewN _).box)))
          go_wp2_with fail
          go_roundg (l.length - (n + 1))
          case rel => exact ⟨n + 1, _, _, rfl, by omega, by go_num, P5.drewN _⟩
          case measure => exact hmeas
      · cases q with
        | nil =>
          have P5 := P
          go_wp2_with fail
          refine (take_no_i P.box).mono ?_
          rintro e w4 ⟨rfl, rfl⟩
          go_wp2_with fail
          refine (rtake_nil P.ref).mono ?_
          rintro e w5 ⟨rfl, rfl⟩
          obtain ⟨A5, c5, hv5, _⟩ := own_shape P5.ref.own
          subst hv5
          have c05 := P5.ref.c0
          have hiv : (iv ([] : List Int)).length = ([] : List Int).length := by simp [iv]
          go_wp2_with fail
          go_quiet ((go_at_call 20; exact quiet_l (hiv ▸ len_any_i (P5.drewN _).box)))
          go_wp2_with fail
          go_roundg (l.length - (n + 1))
          case rel => exact ⟨n + 1, _, _, rfl, by omega, by go_num, P5.drewN _⟩
          case measure => exact hmeas
        | cons y q =>
          go_wp2_with fail
          refine (take_yes_i P.box).mono ?_
          rintro e w4 ⟨rfl, hbox4, hg4⟩
          have href4 := P.ref.kept hg4 (by intro hh; injection hh with hh; have := P.lt; omega) (by intro k hk; cases hk; have := P.lt; have := P.ref.lt; omega)
          go_wp2_with fail
          refine (rtake_cons href4 (by have := P.room; simp at this; omega)).mono ?_
          rintro e w5 ⟨rfl, v5, href5, hg5⟩
          have P5 : Play (w2.heap.size + 1) w2.heap.size (w1.heap.size + 1) w1.heap.size cap w v5 q w5 := by
            have hB4 : Below w.heap.size w w4 := P.bel.grown hg4 (by have := P.bel.size; omega) (by intro k hk; cases hk; exact P.lt.2.2.1)
            exact ⟨hbox4.under hg5 P.lt.1 P.lt.2.1, href5, by have := P.room; simp at this; omega, hB4.trans (hg5.mono (by have := P.lt; omega)), P.lt⟩
          obtain ⟨A5, c5, hv5, _⟩ := own_shape P5.ref.own
          subst hv5
          have c05 := P5.ref.c0
          have hiv : (iv q).length = q.length := by simp [iv]
          go_wp2_with fail
          go_quiet ((go_at_call 20; exact quiet_l (hiv ▸ len_any_i (P5.drewN _).box)))
          go_wp2_with fail
          go_roundg (l.length - (n + 1))
          case rel => exact ⟨n + 1, _, _, rfl, by omega, by go_num, P5.drewN _⟩
          case measure => exact hmeas
    · go_wp2_with fail
      go_ret
      exact ⟨rfl, P.bel⟩

set_option maxRecDepth 100000 in
set_option maxHeartbeats 800000 in
theorem plays_long (room : Int) (h0 : 1 ≤ room) (h1 : room ≤ 1024) (A1 : Option Addr) (n c1 : Nat) (w : World) (hn : 3000 < n) :
    Calls Try.prog 4 #[.int .i64 room, .slice A1 n c1] w fun e w' => e = .returned (.bool true) ∧ Below w.heap.size w w' := by
  go_enter Try.func4, Try.ntmps4
  go_wp2_with fail
  refine (head_any _).mono ?_
  rintro e w1 ⟨rfl, hb1⟩
  go_wp2_with fail
  refine (new_ok_i room h0 h1 _).mono ?_
  rintro e w2 ⟨rfl, hbox2, hb2⟩
  go_wp2_with fail
  refine (rnew_ok room h0 h1 _).mono ?_
  rintro e w3 ⟨rfl, href3, hb3⟩
  go_wp2_with fail
  go_ret
  exact ⟨rfl, (hb1.trans (hb2.mono hb1.size)).trans (hb3.mono (by have := hb1.size; have := hb2.size; omega))⟩
set_option maxRecDepth 100000 in
set_option maxHeartbeats 800000 in
theorem plays_none (room : Int) (h : room < 1 ∨ 1024 < room) (A1 : Option Addr) (n c1 : Nat) (w : World) :
    Calls Try.prog 4 #[.int .i64 room, .slice A1 n c1] w fun e w' => e = .returned (.bool true) ∧ Below w.heap.size w w' := by
  go_enter Try.func4, Try.ntmps4
  go_wp2_with fail
  refine (head_any _).mono ?_
  rintro e w1 ⟨rfl, hb1⟩
  go_wp2_with fail
  refine (new_no_i room h _).mono ?_
  rintro e w2 ⟨rfl, rfl⟩
  go_wp2_with fail
  refine (rnew_no room h _).mono ?_
  rintro e w3 ⟨rfl, rfl⟩
  go_wp2_with fail
  go_ret
  exact ⟨rfl, hb1⟩
theorem plays_law (room : Int) (A1 : Option Addr) (c1 : Nat) (l : List (Int × Int)) (w : World) (hl : Rd w A1 (l.flatMap opc)) :
    Calls Try.prog 4 #[.int .i64 room, .slice A1 l.length c1] w fun e w' => e = .returned (.bool true) ∧ Below w.heap.size w w' := by
  by_cases hr : 1 ≤ room ∧ room ≤ 1024
  · by_cases hn : l.length ≤ 3000
    · exact plays_walk room hr.1 hr.2 A1 c1 l w hl hn
    · exact plays_long room hr.1 hr.2 A1 _ c1 w (by omega)
  · exact plays_none room (by omega) A1 _ c1 w
end Go.Proofs.Ytfeclopdagbngaa
