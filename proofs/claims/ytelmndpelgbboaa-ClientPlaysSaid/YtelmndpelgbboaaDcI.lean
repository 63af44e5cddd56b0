import Derived.Test.YtelmndpelgbboaaDcH
/-! both clients at once -/
namespace Go.Proofs.Ytelmndpelgbboaa
open Go.RowKit Go.Conc Go.Cov Go.Lib
def At (A : Option Addr) (l : List UInt8) (k : Nat) : Prop := l ≠ [] ∧ ∃ ad, A = some ad ∧ ad.block = k
def CB (cb : Nat) (s : Cs) (k : Nat) : Prop := k = cb ∨ k = s.xb ∨ k = s.xc ∨ At s.bA s.body k ∨ ∃ a ∈ s.ans, At a.V a.l k
def DB (db : Nat) (d : Ds) (k : Nat) : Prop := k = db ∨ k = d.lb db ∨ At d.bA d.body k ∨ ∃ a ∈ d.ans, At a.V a.l k
theorem at_lt {w : World} {A : Option Addr} {l : List UInt8} {k : Nat} (h : At A l k) (hr : Rd w A (l.map byt)) : k < w.heap.size := by
  obtain ⟨hl, ad, rfl, rfl⟩ := h
  obtain ⟨x, l, rfl⟩ := List.exists_cons_of_ne_nil hl
  obtain ⟨ad', h1, h2⟩ := hr 0 (byt x) rfl
  cases h1
  have := cell_lt h2
  rwa [block_add] at this
theorem rd_other {b c : Nat} {w w' : World} {A : Option Addr} {l : List UInt8} (hr : Rd w A (l.map byt)) (hg : Gro b c w w') (hne : ∀ k, At A l k → k ≠ b ∧ k ≠ c) : Rd w' A (l.map byt) := by
  by_cases hl : l = []
  · subst hl; exact Rd.nil _ _
  · exact hg.rd hr fun ad hA => hne ad.block ⟨hl, ad, hA, rfl⟩
theorem CB.lt {w : World} {base cb k : Nat} {s : Cs} (h : Cl w base cb s) (hk : CB cb s k) : k < w.heap.size := by
  rcases hk with rfl | rfl | rfl | hk | ⟨a, ha, hk⟩
  · exact h.lt.1
  · exact h.lt.2.1
  · exact h.lt.2.2
  · exact at_lt hk h.body.1
  · exact at_lt hk (h.ans a ha).1
theorem DB.lt {w : World} {base db k : Nat} {d : Ds} (h : Dl w base db d) (hk : DB db d k) : k < w.heap.size := by
  rcases hk with rfl | rfl | hk | ⟨a, ha, hk⟩
  · exact h.lt.1
  · exact h.lt.2.1
  · exact at_lt hk (sl_rd h.body.1)
  · exact at_lt hk (sl_rd (h.own.2 a ha (a.val, a.l) (by simp [anEl])).1)
/-- the program's client behind what the document's one does -/
theorem Cl.other {b c : Nat} {w w' : World} {base cb : Nat} {s : Cs} (h : Cl w base cb s) (hg : Gro b c w w') (hne : ∀ k, CB cb s k → k ≠ b ∧ k ≠ c) : Cl w' base cb s := by
  have hb : ∀ k, CB cb s k → w'.heap[k]? = w.heap[k]? := fun k hk => hg.block k (hk.lt h) (hne k hk).1 (hne k hk).2
  refine ⟨h.row.keep (hb cb (.inl rfl)) hg.size, ?_, h.lo, h.ne, ⟨rd_other h.body.1 hg fun k hk => hne k (.inr (.inr (.inr (.inl hk)))), h.body.2⟩, fun a ha => ⟨rd_other (h.ans a ha).1 hg fun k hk => hne k (.inr (.inr (.inr (.inr ⟨a, ha, hk⟩)))), (h.ans a ha).2⟩⟩
  obtain ⟨h1, x, r, h2⟩ := h.box
  exact ⟨(hb s.xb (.inr (.inl rfl))).trans h1, x, r, (hb s.xc (.inr (.inr (.inl rfl)))).trans h2⟩
/-- .. and the other way about -/
theorem Dl.other {b c : Nat} {w w' : World} {base db : Nat} {d : Ds} (h : Dl w base db d) (hg : Gro b c w w') (hne : ∀ k, DB db d k → k ≠ b ∧ k ≠ c) : Dl w' base db d := by
  refine ⟨h.row.keep (hg.block db h.row.1 (hne db (.inl rfl)).1 (hne db (.inl rfl)).2) hg.size, ?_, h.lo, h.ne, ⟨sl_gro h.body.1 hg fun hl ad hA => hne ad.block (.inr (.inr (.inl ⟨hl, ad, hA, rfl⟩))), h.body.2⟩, h.ans⟩
  exact own_els h.own hg (fun k hk => by rw [d.own_lb db hk]; exact hne _ (.inr (.inl rfl))) fun a ha hl ad hA => hne ad.block (.inr (.inr (.inr ⟨a, ha, hl, ad, hA, rfl⟩)))
/-- the two have the same -/
def An.data (a : An) : Int × List UInt8 := (a.n, a.l)
structure Alike (s : Cs) (d : Ds) : Prop where
  f : d.f = s.f
  number : d.number = s.number
  again : d.again = s.again
  room : d.room = s.room
  count : d.count = s.count
  waits : d.waits = s.waits
  body : d.body = s.body
  ticks : d.ticks = s.ticks
  view : d.view = s.view
  ans : d.ans.map An.data = s.ans.map An.data
def Apt (cb db : Nat) (s : Cs) (d : Ds) : Prop := ∀ k, CB cb s k → ¬ DB db d k
/-- both of them -/
structure Bo (w : World) (bj bd cb db : Nat) (s : Cs) (d : Ds) : Prop where
  pc : Cl w bj cb s
  pd : Dl w bd db d
  apt : Apt cb db s d
variable {w w' : World} {bj bd cb db : Nat} {s s' : Cs} {d d' : Ds}
theorem Bo.below (h : Bo w bj bd cb db s d) (hb : Below w.heap.size w w') : Bo w' bj bd cb db s d := ⟨h.pc.gro hb, h.pd.gro hb, h.apt⟩
theorem Bo.byC (h : Bo w bj bd cb db s d) (hc : Cl w' bj cb s') (hg : Gro cb s.xc w w') (hn : ∀ k, CB cb s' k → CB cb s k ∨ w.heap.size ≤ k) : Bo w' bj bd cb db s' d := by
  refine ⟨hc, h.pd.other hg fun k hk => ⟨fun e => h.apt k (.inl e) hk, fun e => h.apt k (.inr (.inr (.inl e))) hk⟩, fun k hk hd => ?_⟩
  rcases hn k hk with h1 | h1
  · exact h.apt k h1 hd
  · have := hd.lt h.pd; omega
theorem Bo.byD (h : Bo w bj bd cb db s d) (hd : Dl w' bd db d') (hg : Gro db (d.lb db) w w') (hn : ∀ k, DB db d' k → DB db d k ∨ w.heap.size ≤ k) : Bo w' bj bd cb db s d' := by
  refine ⟨h.pc.other hg fun k hk => ⟨fun e => h.apt k hk (.inl e), fun e => h.apt k hk (.inr (.inl e))⟩, hd, fun k hk hdk => ?_⟩
  rcases hn k hdk with h1 | h1
  · exact h.apt k hk h1
  · have := hk.lt h.pc; omega
theorem bo_new {f number again room : Int} {xb xc : Nat} (hc : Cl w bj cb (new0 f number again room xb xc)) (hb : Below w.heap.size w w') (hd : Dl w' w.heap.size db (dnew0 f number again room)) : Bo w' bj w.heap.size cb db (new0 f number again room xb xc) (dnew0 f number again room) := by
  refine ⟨hc.gro hb, hd, fun k hk hdk => ?_⟩
  have h1 := hk.lt hc
  have h2 := hd.lo
  rcases hdk with h3 | h3 | h3 | ⟨a, ha, _⟩
  · omega
  · have : k = db := h3; omega
  · exact h3.1 rfl
  · cases ha
theorem alike_new {f number again room : Int} {xb xc : Nat} : Alike (new0 f number again room xb xc) (dnew0 f number again room) := ⟨rfl, rfl, rfl, rfl, rfl, rfl, rfl, rfl, rfl, rfl⟩
/-- bounds that hold all the time -/
def FineB (s : Cs) : Prop := Fine s ∧ s.body.length ≤ s.bc ∧ s.bc ≤ maxLen
theorem al_len (h : Alike s d) : d.ans.length = s.ans.length := by have := congrArg List.length h.ans; simpa using this
theorem al_may (h : Alike s d) (hf : FineB s) (b : List UInt8) : mayAsk s b ↔ mayAskD d b := by
  have hr := hf.1.1
  unfold okC at hr
  unfold mayAsk mayAskD
  rw [h.waits, h.count, h.room, al_len h]
  constructor
  · rintro ⟨h1, h2, h3, h4⟩; exact ⟨h1, h2, h3, by omega⟩
  · rintro ⟨h1, h2, h3, h4⟩; exact ⟨h1, h2, h3, by omega⟩
theorem al_mine (h : Alike s d) (m : Mg) : mine s m ↔ mineD d m := by
  unfold mine mineD
  rw [h.number]
theorem ask_c {b : List UInt8} {V : Option Addr} {k : Nat} {n : Nat} (hV : ∀ ad, V = some ad → n ≤ ad.block) : ∀ j, CB cb (asks s b V k) j → CB cb s j ∨ n ≤ j := fun j hj => by
  rcases hj with h1 | h1 | h1 | ⟨_, ad, h1, h2⟩ | h1
  · exact .inl (.inl h1)
  · exact .inl (.inr (.inl h1))
  · exact .inl (.inr (.inr (.inl h1)))
  · exact .inr (h2 ▸ hV ad h1)
  · exact .inl (.inr (.inr (.inr (.inr h1))))
theorem ask_d {b : List UInt8} {V : Option Addr} {k : Nat} {n : Nat} (hV : ∀ ad, V = some ad → n ≤ ad.block) : ∀ j, DB db (asksD d b V k) j → DB db d j ∨ n ≤ j := fun j hj => by
  rcases hj with h1 | h1 | ⟨_, ad, h1, h2⟩ | h1
  · exact .inl (.inl h1)
  · exact .inl (.inr (.inl h1))
  · exact .inr (h2 ▸ hV ad h1)
  · exact .inl (.inr (.inr (.inr h1)))
theorem take_c {x : An} {l : List An} (hx : s.ans = x :: l) : ∀ j, CB cb { s with ans := l } j → CB cb s j := fun j hj => by
  rcases hj with h1 | h1 | h1 | h1 | ⟨a, ha, h1⟩
  · exact .inl h1
  · exact .inr (.inl h1)
  · exact .inr (.inr (.inl h1))
  · exact .inr (.inr (.inr (.inl h1)))
  · exact .inr (.inr (.inr (.inr ⟨a, by rw [hx]; exact List.mem_cons_of_mem _ ha, h1⟩)))
theorem take_d {x : An} {l : List An} {A : Option Addr} {c n : Nat} (hx : d.ans = x :: l) (hl : lbOf db A = db ∨ n ≤ lbOf db A) : ∀ j, DB db { d with aA := A, ac := c, ans := l } j → DB db d j ∨ n ≤ j := fun j hj => by
  rcases hj with h1 | h1 | h1 | ⟨a, ha, h1⟩
  · exact .inl (.inl h1)
  · have h1 : j = lbOf db A := h1
    rcases hl with h2 | h2
    · exact .inl (.inl (h1.trans h2))
    · exact .inr (h1 ▸ h2)
  · exact .inl (.inr (.inr (.inl h1)))
  · exact .inl (.inr (.inr (.inr ⟨a, by rw [hx]; exact List.mem_cons_of_mem _ ha, h1⟩)))
theorem takes_c {m : Mg} {V : Option Addr} {c n : Nat} (hV : ∀ ad, V = some ad → n ≤ ad.block) : ∀ j, CB cb (takes s m V c) j → CB cb s j ∨ n ≤ j := fun j hj => by
  unfold takes at hj
  split at hj
  · rcases hj with h1 | h1 | h1 | h1 | ⟨a, ha, h1⟩
    · exact .inl (.inl h1)
    · exact .inl (.inr (.inl h1))
    · exact .inl (.inr (.inr (.inl h1)))
    · exact .inl (.inr (.inr (.inr (.inl h1))))
    · rcases List.mem_append.1 ha with ha | ha
      · exact .inl (.inr (.inr (.inr (.inr ⟨a, ha, h1⟩))))
      · rw [List.mem_singleton.1 ha] at h1
        obtain ⟨_, ad, h2, h3⟩ := h1
        exact .inr (h3 ▸ hV ad h2)
  · exact .inl hj
theorem takes_d {m : Mg} {V : Option Addr} {c n : Nat} {A : Option Addr} {ac : Nat} (hV : ∀ ad, V = some ad → n ≤ ad.block) (hl : (takesD d m V c A ac).lb db = d.lb db ∨ n ≤ (takesD d m V c A ac).lb db) : ∀ j, DB db (takesD d m V c A ac) j → DB db d j ∨ n ≤ j := fun j hj => by
  rcases hj with h1 | h1 | h1 | h1
  · exact .inl (.inl h1)
  · rcases hl with h2 | h2
    · exact .inl (.inr (.inl (h1.trans h2)))
    · exact .inr (h1 ▸ h2)
  · unfold takesD at h1
    split at h1 <;> exact .inl (.inr (.inr (.inl h1)))
  · unfold takesD at h1
    split at h1
    · obtain ⟨a, ha, h1⟩ := h1
      rcases List.mem_append.1 ha with ha | ha
      · exact .inl (.inr (.inr (.inr ⟨a, ha, h1⟩)))
      · rw [List.mem_singleton.1 ha] at h1
        obtain ⟨_, ad, h2, h3⟩ := h1
        exact .inr (h3 ▸ hV ad h2)
    · exact .inl (.inr (.inr (.inr h1)))
theorem ask_al (h : Alike s d) (b : List UInt8) (V V' : Option Addr) (k k' : Nat) : Alike (asks s b V k) (asksD d b V' k') := ⟨h.f, h.number, h.again, h.room, by show d.count + 1 = s.count + 1; rw [h.count], rfl, rfl, rfl, h.view, h.ans⟩
theorem tick_al (h : Alike s d) : Alike (ticked s) (tickedD d) := ⟨h.f, h.number, h.again, h.room, h.count, h.waits, h.body, by show IntKind.i64.wrap (d.ticks + 1) = IntKind.i64.wrap (s.ticks + 1); rw [h.ticks], h.view, h.ans⟩
theorem sees_al (h : Alike s d) (m : Mg) : Alike (sees s m) (seesD d m) := ⟨h.f, h.number, h.again, h.room, h.count, h.waits, h.body, h.ticks, by show (if d.view < m.view then m.view else d.view) = _; rw [h.view]; rfl, h.ans⟩
theorem takes_al (h : Alike s d) (m : Mg) (V V' A : Option Addr) (c c' ac : Nat) : Alike (takes s m V c) (takesD d m V' c' A ac) := by
  unfold takes takesD
  by_cases hw : s.waits = true ∧ s.count = m.req
  · have hw2 : d.waits = true ∧ m.req = d.count := ⟨h.waits.trans hw.1, by rw [h.count]; exact hw.2.symm⟩
    rw [if_pos hw, if_pos hw2]
    have h2 := sees_al h m
    refine ⟨h2.f, h2.number, h2.again, h2.room, h2.count, rfl, h2.body, h2.ticks, h2.view, ?_⟩
    show (d.ans ++ [_]).map An.data = (s.ans ++ [_]).map An.data
    rw [List.map_append, List.map_append, h.ans]
    congr 1
    show [(d.count, m.body)] = [(m.req, m.body)]
    rw [hw2.2]
  · have hw2 : ¬ (d.waits = true ∧ m.req = d.count) := fun e => hw ⟨h.waits.symm.trans e.1, by rw [← h.count]; exact e.2.symm⟩
    rw [if_neg hw, if_neg hw2]
    exact sees_al h m
theorem rqs_al (h : Alike s d) (n : Nat) : (rqs s n).map Rq.data = (rqsD d n).map Rq.data := by
  unfold rqs rqsD
  rw [List.map_map, List.map_map]
  refine List.map_congr_left fun i _ => ?_
  show ((i : Int), s.number, s.count, s.body) = ((i : Int), d.number, d.count, d.body)
  rw [h.number, h.count, h.body]
theorem atall_al (h : Alike s d) : (atAll s).map Rq.data = (atAllD d).map Rq.data := by
  unfold atAll atAllD
  rw [h.ticks, h.again, h.f]
  split
  · exact rqs_al h _
  · rfl
theorem fine_ask (h : FineB s) {b : List UInt8} (hm : mayAsk s b) (V : Option Addr) {k : Nat} (hk : b.length ≤ k ∧ k ≤ maxLen) : FineB (asks s b V k) := by
  obtain ⟨⟨f1, f2, f3, f4, f5, f6, f7⟩, h6⟩ := h
  obtain ⟨m1, m2, m3, m4⟩ := hm
  exact ⟨⟨f1, f2, f3, by show (0 : Int) ≤ s.count + 1; omega, by show s.count + 1 ≤ 1099511627776; omega, f6, fun _ => m4⟩, hk⟩
theorem fine_take (h : FineB s) {x : An} {l : List An} (hx : s.ans = x :: l) : FineB { s with ans := l } := by
  obtain ⟨⟨f1, f2, f3, f4, f5, f6, f7⟩, h6⟩ := h
  rw [hx] at f6 f7
  rw [List.length_cons] at f6 f7
  exact ⟨⟨f1, f2, f3, f4, f5, by show l.length ≤ s.room.toNat; omega, fun hw => by have := f7 hw; show l.length < s.room.toNat; omega⟩, h6⟩
theorem fine_sees (h : FineB s) {m : Mg} (hm : mine s m) : FineB (sees s m) := by
  obtain ⟨⟨f1, f2, f3, f4, f5, f6, f7⟩, h6⟩ := h
  obtain ⟨m1, m2, m3, m4⟩ := hm
  refine ⟨⟨f1, ?_, ?_, f4, f5, f6, f7⟩, h6⟩
  · show 0 ≤ (if s.view < m.view then m.view else s.view); split <;> omega
  · show (if s.view < m.view then m.view else s.view) ≤ _; split <;> omega
theorem fine_takes (h : FineB s) {m : Mg} (hm : mine s m) (V : Option Addr) (c : Nat) : FineB (takes s m V c) := by
  unfold takes
  split
  · rename_i hw
    obtain ⟨⟨f1, f2, f3, f4, f5, f6, f7⟩, h6⟩ := fine_sees h hm
    have f8 := f7 hw.1
    refine ⟨⟨f1, f2, f3, f4, f5, ?_, fun hh => by cases hh⟩, h6⟩
    have hl : (sees s m).ans = s.ans := rfl
    show (s.ans ++ [_]).length ≤ _
    rw [List.length_append, List.length_singleton, ← hl]; exact f8
  · exact fine_sees h hm
theorem fine_new {f number again room : Int} (hok : okC f number again room) (xb xc : Nat) : FineB (new0 f number again room xb xc) :=
  ⟨⟨hok, by show (0 : Int) ≤ 0; omega, by show (0 : Int) ≤ 1073741824; omega, by show (0 : Int) ≤ 0; omega, by show (0 : Int) ≤ 1099511627776; omega, by show (0 : Nat) ≤ _; omega, fun h => by cases h⟩, Nat.le_refl _, by show (0 : Nat) ≤ maxLen; omega⟩
theorem al_ans {x : An} {l : List An} (h : Alike s d) (hx : s.ans = x :: l) : ∃ y l2, d.ans = y :: l2 ∧ y.n = x.n ∧ y.l = x.l ∧ l2.map An.data = l.map An.data := by
  have h1 := h.ans
  rw [hx] at h1
  cases hd : d.ans with
  | nil => rw [hd] at h1; cases h1
  | cons y l2 =>
    rw [hd] at h1
    simp only [List.map_cons, List.cons.injEq, An.data, Prod.mk.injEq] at h1
    exact ⟨y, l2, rfl, h1.1.1, h1.1.2, h1.2⟩
theorem al_nil (h : Alike s d) (hx : s.ans = []) : d.ans = [] := by
  have h1 := h.ans
  rw [hx] at h1
  simpa using h1
end Go.Proofs.Ytelmndpelgbboaa
