import Derived.Test.YtelmndpelgbboaaCliR
/-! the document's client -/
namespace Go.Proofs.Ytelmndpelgbboaa
open Go.RowKit Go.Conc Go.Cov Go.Lib
def An.val (a : An) : Value := .slice a.V a.l.length a.c
def anEl : El An where
  sz := 2
  cells := fun a => [.int .i64 a.n, a.val]
  cons := fun a => [(a.val, a.l)]
  len := fun _ => rfl
  one := fun a u hu => by
    rcases List.mem_cons.1 hu with rfl | hu
    · rfl
    · rw [List.mem_singleton.1 hu]; rfl
  pos := by decide
theorem infoAn : (Try.prog.info? 71).map (fun i => (i.zero, i.size, i.bytes)) = some (some (.agg #[.int .i64 0, .slice none 0 0]), 2, 32) := by kernel_rfl
/-- THE DOCUMENT'S CLIENT, as data -/
structure Ds where
  f : Int
  number : Int
  again : Int
  room : Int
  count : Int
  waits : Bool
  bA : Option Addr
  bc : Nat
  body : List UInt8
  ticks : Int
  view : Int
  aA : Option Addr
  ac : Nat
  ans : List An
def Ds.L (s : Ds) : Value := .slice s.aA s.ans.length s.ac
def Ds.cells (s : Ds) : List Value := [.int .i64 s.f, .int .i64 s.number, .int .i64 s.again, .int .i64 s.room, .int .i64 s.count, .bool s.waits, .slice s.bA s.body.length s.bc, .int .i64 s.ticks, .int .i64 s.view, s.L]
/-- the block of its list -/
def lbOf (db : Nat) (A : Option Addr) : Nat := match A with | none => db | some ad => ad.block
def Ds.lb (s : Ds) (db : Nat) : Nat := lbOf db s.aA
/-- apart, unless it is empty -/
def ApE (b c : Nat) (A : Option Addr) (l : List UInt8) : Prop := l ≠ [] → Apa b c A
/-- .. at db, all of whose memory lies from base on -/
structure Dl (w : World) (base db : Nat) (s : Ds) : Prop where
  row : Row w db s.cells
  own : OwnEls anEl w base 71 s.L s.ans
  lo : base ≤ db
  ne : ∀ ad, s.aA = some ad → ad.block ≠ db
  body : Sl w (.slice s.bA s.body.length s.bc) s.body ∧ ApE db (s.lb db) s.bA s.body
  ans : ∀ a ∈ s.ans, ApE db db a.V a.l
theorem Dl.gro {w w' : World} {base db : Nat} {s : Ds} (h : Dl w base db s) (hb : Below w.heap.size w w') : Dl w' base db s :=
  ⟨h.row.below hb, h.own.below hb, h.lo, h.ne, ⟨h.body.1.below hb, h.body.2⟩, h.ans⟩
theorem Ds.own_lb (s : Ds) (db : Nat) {k : Nat} (hk : s.L.ownBlock = some k) : k = s.lb db := by
  unfold Ds.L at hk
  unfold Ds.lb lbOf
  cases ha : s.aA with
  | none => rw [ha] at hk; cases hk
  | some ad => rw [ha] at hk; exact (Option.some.inj hk).symm
theorem Dl.lb_cases {w : World} {base db : Nat} {s : Ds} (h : Dl w base db s) : s.lb db = db ∨ (s.L.ownBlock = some (s.lb db) ∧ base ≤ s.lb db ∧ s.lb db < w.heap.size ∧ s.lb db ≠ db) := by
  cases ha : s.aA with
  | none => left; unfold Ds.lb lbOf; rw [ha]
  | some ad =>
    right
    have h1 : s.L.ownBlock = some ad.block := by unfold Ds.L; rw [ha]; rfl
    have h2 : s.lb db = ad.block := by unfold Ds.lb lbOf; rw [ha]
    rw [h2]
    exact ⟨h1, (h.own.lt h1).1, (h.own.lt h1).2, h.ne ad ha⟩
theorem Dl.lt {w : World} {base db : Nat} {s : Ds} (h : Dl w base db s) : db < w.heap.size ∧ s.lb db < w.heap.size ∧ base ≤ s.lb db := by
  have h1 := h.row.1
  have h2 := h.lo
  rcases h.lb_cases with h3 | ⟨_, h3, h4, _⟩
  · rw [h3]; exact ⟨h1, h1, h2⟩
  · exact ⟨h1, h4, h3⟩
theorem sl_gro {b c : Nat} {w w' : World} {A : Option Addr} {cap : Nat} {l : List UInt8} (h : Sl w (.slice A l.length cap) l) (hg : Gro b c w w') (ha : ApE b c A l) : Sl w' (.slice A l.length cap) l := by
  obtain ⟨A', c', he, h1, h2, h3⟩ := h
  injection he with e1 e2 e3
  subst e1; subst e3
  refine ⟨A, cap, rfl, h1, h2, ?_⟩
  by_cases hl : l = []
  · subst hl; exact Rd.nil _ _
  · exact hg.rd h3 (ha hl)
theorem own_heapc {w w' : World} {base : Nat} {e : TypeId} {size n : Nat} {v : Value} {xs : List Value} (h : w.ownsRow base e size v n xs) (hk : ∀ k, v.ownBlock = some k → w'.heap[k]? = w.heap[k]?) : w'.ownsRow base e size v n xs := by
  obtain ⟨hl, h⟩ := h
  refine ⟨hl, ?_⟩
  rcases h with h | ⟨g, cap, cur, rfl, h1, h2, h3⟩
  · exact .inl h
  · exact .inr ⟨g, cap, cur, rfl, h1, (hk g rfl).trans h2, h3⟩
/-- two blocks turned that are none of its answers' -/
theorem own_els {b c : Nat} {w w' : World} {base : Nat} {e : TypeId} {v : Value} {xs : List An} (h : OwnEls anEl w base e v xs) (hg : Gro b c w w') (hv : ∀ k, v.ownBlock = some k → k ≠ b ∧ k ≠ c) (ha : ∀ a ∈ xs, ApE b c a.V a.l) : OwnEls anEl w' base e v xs := by
  refine ⟨own_heapc h.1 fun k hk => hg.block k (h.lt hk).2 (hv k hk).1 (hv k hk).2, fun a hxa p hp => ⟨?_, (h.2 a hxa p hp).2⟩⟩
  have h1 := (h.2 a hxa p hp).1
  obtain rfl := List.mem_singleton.1 hp
  exact sl_gro h1 hg (ha a hxa)
/-- one cell of its own turned, not the list's -/
theorem Dl.turn {w : World} {base db : Nat} {s : Ds} (h : Dl w base db s) (i : Nat) (hi : i < 10) (x : Value) (s' : Ds) (hc : s'.cells = s.cells.set i x) (hx : s'.aA = s.aA ∧ s'.ac = s.ac ∧ s'.ans = s.ans) (hb : Sl w (.slice s'.bA s'.body.length s'.bc) s'.body ∧ ApE db (s.lb db) s'.bA s'.body) :
    Dl (w.setCell ⟨db, i, none⟩ x) base db s' ∧ Gro db (s.lb db) w (w.setCell ⟨db, i, none⟩ x) := by
  have hg : Gro db db w (w.setCell ⟨db, i, none⟩ x) := Gro.set db db i w x
  have hg2 : Gro db (s.lb db) w (w.setCell ⟨db, i, none⟩ x) := Gro.set db (s.lb db) i w x
  obtain ⟨h1, h2, h3⟩ := hx
  have hL : s'.L = s.L := by unfold Ds.L; rw [h1, h2, h3]
  have hlb : s'.lb db = s.lb db := by unfold Ds.lb; rw [h1]
  refine ⟨⟨by rw [hc]; exact h.row.set i (by simpa [Ds.cells] using hi) x, ?_, h.lo, by rw [h1]; exact h.ne, ⟨sl_gro hb.1 hg2 hb.2, by rw [hlb]; exact hb.2⟩, by rw [h3]; exact h.ans⟩, hg2⟩
  rw [hL, h3]
  exact own_els h.own hg (fun k hk => by
    unfold Ds.L at hk
    cases ha : s.aA with
    | none => rw [ha] at hk; cases hk
    | some ad => rw [ha] at hk; have e := (Option.some.inj hk).symm; have := h.ne ad ha; omega) h.ans
theorem gro_grown {w w' : World} {s : Ds} {db : Nat} (h : w.grownBy w' s.L.ownBlock) : Gro db (s.lb db) w w' :=
  ⟨h.os, h.tape, h.output, h.size, fun k hk _ h2 => h.block k hk (fun e => h2 (s.own_lb db e.symm))⟩
/-- an answer more -/
theorem dl_app {w w' : World} {base db : Nat} {s : Ds} (h : Dl w base db s) {x : An} {v : Value} (hx : Sl w x.val x.l) (hxd : ApE db (s.lb db) x.V x.l) (hin : w'.ownsRow base 71 2 v (s.ans.length + 1) (s.ans.flatMap anEl.cells ++ [x].flatMap anEl.cells)) (hg : w.grownBy w' s.L.ownBlock) (hat : v.ownBlock = s.L.ownBlock ∨ v.ownBlock = some w.heap.size) :
    ∃ A c, v = .slice A (s.ans.length + 1) c ∧ Dl (w'.setCell ⟨db, 9, none⟩ v) base db { s with aA := A, ac := c, ans := s.ans ++ [x] } ∧ Gro db (s.lb db) w (w'.setCell ⟨db, 9, none⟩ v) ∧ (lbOf db A = s.lb db ∨ lbOf db A = w.heap.size) := by
  obtain ⟨A, c, rfl, hc1, hc2, _⟩ := own_shape hin
  have hlt := h.lt
  have hG : Gro db (s.lb db) w w' := gro_grown hg
  have hG2 : Gro db (s.lb db) w' (w'.setCell ⟨db, 9, none⟩ (.slice A (s.ans.length + 1) c)) := Gro.set db (s.lb db) 9 w' _
  have hG3 : Gro db db w' (w'.setCell ⟨db, 9, none⟩ (.slice A (s.ans.length + 1) c)) := Gro.set db db 9 w' _
  have hoff : Off anEl w s.L [x] := fun a ha p hp => by
    rw [List.mem_singleton.1 ha] at hp
    rw [List.mem_singleton.1 hp]
    refine ⟨hx, fun hl _ he => ?_⟩
    cases hV : x.V with
    | none =>
      have e1 : x.val.ownBlock = none := by unfold An.val; rw [hV]; rfl
      rw [e1] at he; exact absurd he.symm (by assumption)
    | some ad =>
      have e1 : x.val.ownBlock = some ad.block := by unfold An.val; rw [hV]; rfl
      exact (hxd hl ad hV).2 (s.own_lb db (he.symm.trans e1))
  have hnew := OwnEls.app (ys := [x]) h.own.2 hoff hin hg hat
  have hrow : Row w' db s.cells := h.row.keep (hg.block db h.row.1 (fun e => by
    have h1 := s.own_lb db e.symm
    rcases h.lb_cases with h2 | ⟨_, _, _, h2⟩
    · cases ha : s.aA with
      | none => unfold Ds.L at e; rw [ha] at e; cases e
      | some ad => exact h.ne ad ha (by unfold Ds.L at e; rw [ha] at e; exact (Option.some.inj e).symm)
    · exact h2 h1.symm)) hg.size
  have hlb : lbOf db A = s.lb db ∨ lbOf db A = w.heap.size := by
    cases hA : A with
    | none => 
      left
      subst hA
      rcases hat with e | e
      · unfold Ds.lb; cases ha : s.aA with
        | none => rfl
        | some ad => unfold Ds.L at e; rw [ha] at e; cases e
      · cases e
    | some ad =>
      subst hA
      rcases hat with e | e
      · left; exact s.own_lb db (k := ad.block) e.symm
      · right; exact Option.some.inj e
  have hane : ∀ ad, A = some ad → ad.block ≠ db := fun ad hA e => by
    subst hA
    rcases hat with e1 | e1
    · cases ha : s.aA with
      | none => unfold Ds.L at e1; rw [ha] at e1; cases e1
      | some ad2 => unfold Ds.L at e1; rw [ha] at e1; exact h.ne ad2 ha (by have := Option.some.inj e1; omega)
    · have := Option.some.inj e1; omega
  have hans : ∀ a ∈ s.ans ++ [x], ApE db db a.V a.l := fun a ha => by
    rcases List.mem_append.1 ha with ha | ha
    · exact h.ans a ha
    · rw [List.mem_singleton.1 ha]; exact fun hl ad hA => ⟨(hxd hl ad hA).1, (hxd hl ad hA).1⟩
  have hbody : Sl w' (.slice s.bA s.body.length s.bc) s.body := sl_gro h.body.1 hG h.body.2
  have hbl : ApE db (lbOf db A) s.bA s.body := fun hl ad hA => by
    refine ⟨(h.body.2 hl ad hA).1, fun e => ?_⟩
    rcases hlb with e2 | e2
    · exact (h.body.2 hl ad hA).2 (e.trans e2)
    · have := h.body.1.lt hl (k := ad.block) (by rw [hA]; rfl); omega
  refine ⟨A, c, rfl, ⟨?_, ?_, h.lo, hane, ⟨sl_gro hbody hG2 h.body.2, hbl⟩, hans⟩, hG.trans hG2, hlb⟩
  · have := hrow.set 9 (by simp [Ds.cells]) (.slice A (s.ans.length + 1) c)
    have e : Ds.cells { s with aA := A, ac := c, ans := s.ans ++ [x] } = s.cells.set 9 (.slice A (s.ans.length + 1) c) := by simp [Ds.cells, Ds.L]
    rw [e]; exact this
  · have e : Ds.L { s with aA := A, ac := c, ans := s.ans ++ [x] } = .slice A (s.ans.length + 1) c := by simp [Ds.L]
    rw [e]
    exact own_els hnew hG3 (fun k hk => by
      cases hA : A with
      | none => rw [hA] at hk; cases hk
      | some ad => rw [hA] at hk; have := hane ad hA; have := Option.some.inj hk; omega) hans
def dnew0 (f number again room : Int) : Ds := ⟨f, number, again, room, 0, false, none, 0, [], 0, 0, none, 0, []⟩
set_option maxHeartbeats 800000 in
theorem new_dl {f number again room : Int} (h : okC f number again room) (w : World) :
    Calls Try.prog 14 #[.int .i64 f, .int .i64 number, .int .i64 again, .int .i64 room] w fun e w' => ∃ db, e = .returned (.pointer (some ⟨db, 0, none⟩)) ∧ Dl w' w.heap.size db (dnew0 f number again room) ∧ Below w.heap.size w w' := by
  obtain ⟨h1, h2, h3, h4, h5, h6, h7⟩ := h
  have j1 : ¬ f < 0 := by omega
  have j2 : ¬ 3 < f := by omega
  have j3 : ¬ number < 1 := by omega
  have j4 : ¬ again < 1 := by omega
  have j5 : ¬ 1000 < again := by omega
  have j6 : ¬ room < 1 := by omega
  have j7 : ¬ 1024 < room := by omega
  have b1 := below_alloc w (.cells (dnew0 f number again room).cells.toArray 53)
  go_enter Try.func14, Try.ntmps14
  go_wp2_with fail
  go_ret
  exact ⟨w.heap.size, rfl, ⟨Row.new w _ _, OwnEls.nil _ _ _ _, Nat.le_refl _, (fun ad h => by cases h), ⟨⟨none, 0, rfl, Nat.le_refl _, (by show (0 : Nat) ≤ maxLen; omega), Rd.nil _ _⟩, (fun _ ad h => by cases h)⟩, (fun a ha => by cases ha)⟩, b1⟩
set_option maxHeartbeats 800000 in
theorem new_dl_no {f number again room : Int} (h : ¬ okC f number again room) (w : World) :
    Calls Try.prog 14 #[.int .i64 f, .int .i64 number, .int .i64 again, .int .i64 room] w fun e w' => e = .returned (.pointer none) ∧ w' = w := by
  have H := hid (show f < 0 ∨ (¬ f < 0 ∧ 3 < f) ∨ (¬ f < 0 ∧ ¬ 3 < f ∧ number < 1) ∨ (¬ f < 0 ∧ ¬ 3 < f ∧ ¬ number < 1 ∧ again < 1) ∨ (¬ f < 0 ∧ ¬ 3 < f ∧ ¬ number < 1 ∧ ¬ again < 1 ∧ 1000 < again) ∨ (¬ f < 0 ∧ ¬ 3 < f ∧ ¬ number < 1 ∧ ¬ again < 1 ∧ ¬ 1000 < again ∧ room < 1) ∨ (¬ f < 0 ∧ ¬ 3 < f ∧ ¬ number < 1 ∧ ¬ again < 1 ∧ ¬ 1000 < again ∧ ¬ room < 1 ∧ 1024 < room) by
    unfold okC at h
    omega)
  clear h
  rcases H.out with j1 | ⟨j1, j2⟩ | ⟨j1, j2, j3⟩ | ⟨j1, j2, j3, j4⟩ | ⟨j1, j2, j3, j4, j5⟩ | ⟨j1, j2, j3, j4, j5, j6⟩ | ⟨j1, j2, j3, j4, j5, j6, j7⟩
  all_goals
    go_enter Try.func14, Try.ntmps14
    go_wp2_with fail
    go_ret
    exact ⟨rfl, rfl⟩
end Go.Proofs.Ytelmndpelgbboaa
