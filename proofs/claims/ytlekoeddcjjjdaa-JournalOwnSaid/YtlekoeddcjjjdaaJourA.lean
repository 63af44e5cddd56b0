import Derived.Test.YtlekoeddcjjjdaaStoreL
import Derived.Test.YtlekoeddcjjjdaaPlain1
namespace Go.Proofs.Ytlekoeddcjjjdaa
open Go.RowKit Go.Cov Go.Lib
variable {Bk : Nat → Prop}
/-- a block that the journal's writing leaves alone -/
def Gd (Bk : Nat → Prop) (w : World) (jb : Nat) (uv : Value) (k : Nat) : Prop := k < w.heap.size ∧ k ≠ jb ∧ uv.ownBlock ≠ some k ∧ Bk k
def GA (Bk : Nat → Prop) (w : World) (jb : Nat) (uv : Value) (A : Option Addr) : Prop := ∀ ad, A = some ad → Gd Bk w jb uv ad.block
/-- .. of a slice that is not empty (an empty one may lie anywhere) -/
def GE (Bk : Nat → Prop) (w : World) (jb : Nat) (uv : Value) (A : Option Addr) (l : List UInt8) : Prop := l ≠ [] → GA Bk w jb uv A
theorem ge_of {w : World} {jb : Nat} {uv : Value} {A : Option Addr} {l : List UInt8} (h : GA Bk w jb uv A) : GE Bk w jb uv A l := fun _ => h
def GSt (Bk : Nat → Prop) (w : World) (jb : Nat) (uv : Value) (A : Option Addr) (c : Nat) (xs : List Pr) (L : PL) : Prop := St w A c xs L ∧ GA Bk w jb uv A ∧ ∀ x ∈ xs, GE Bk w jb uv x.kA x.k ∧ GE Bk w jb uv x.vA x.v
theorem Gd.below {w w' : World} {jb k : Nat} {uv : Value} (h : Gd Bk w jb uv k) (hb : Below w.heap.size w w') : Gd Bk w' jb uv k := ⟨Nat.lt_of_lt_of_le h.1 hb.size, h.2⟩
theorem GA.below {w w' : World} {jb : Nat} {uv : Value} {A : Option Addr} (h : GA Bk w jb uv A) (hb : Below w.heap.size w w') : GA Bk w' jb uv A := fun ad hA => (h ad hA).below hb
theorem GE.below {w w' : World} {jb : Nat} {uv : Value} {A : Option Addr} {l : List UInt8} (h : GE Bk w jb uv A l) (hb : Below w.heap.size w w') : GE Bk w' jb uv A l := fun hl => (h hl).below hb
theorem GSt.below {w w' : World} {jb c : Nat} {uv : Value} {A : Option Addr} {xs : List Pr} {L : PL} (h : GSt Bk w jb uv A c xs L) (hb : Below w.heap.size w w') : GSt Bk w' jb uv A c xs L :=
  ⟨h.1.below hb, h.2.1.below hb, fun x hx => ⟨(h.2.2 x hx).1.below hb, (h.2.2 x hx).2.below hb⟩⟩
/-- .. over to a world where only the journal's own blocks may have turned -/
theorem rd_keepG {w w' : World} {A : Option Addr} {xs : List Value} (h : Rd w A xs) (hk : ∀ ad, A = some ad → w'.heap[ad.block]? = w.heap[ad.block]?) : Rd w' A xs := fun j u hj => by
  obtain ⟨ad, hA, hc⟩ := h j u hj
  refine ⟨ad, hA, ?_⟩
  rw [World.cell?_of_block (w := w) (by rw [block_add]; exact hk ad hA)]
  exact hc
theorem GSt.keep {w w' : World} {jb c : Nat} {uv uv' : Value} {A : Option Addr} {xs : List Pr} {L : PL} (h : GSt Bk w jb uv A c xs L) (hk : ∀ k, Gd Bk w jb uv k → w'.heap[k]? = w.heap[k]? ∧ Gd Bk w' jb uv' k) : GSt Bk w' jb uv' A c xs L := by
  refine ⟨⟨⟨rd_keepG h.1.1.1 (fun ad hA => (hk _ (h.2.1 ad hA)).1), fun a ha p hp => ?_⟩, h.1.2⟩, fun ad hA => (hk _ (h.2.1 ad hA)).2, fun x hx => ⟨fun hl ad hA => (hk _ ((h.2.2 x hx).1 hl ad hA)).2, fun hl ad hA => (hk _ ((h.2.2 x hx).2 hl ad hA)).2⟩⟩
  obtain ⟨B, d, he, h1, h2, h3⟩ := h.1.1.2 a ha p hp
  refine ⟨B, d, he, h1, h2, ?_⟩
  rcases List.mem_cons.1 hp with rfl | hp
  · have he2 : Value.slice a.kA a.k.length a.kc = .slice B a.k.length d := he
    injection he2 with e1
    by_cases h0 : a.k = []
    · dsimp only; rw [h0]; exact Rd.nil _ _
    · exact rd_keepG h3 fun ad hA => (hk _ ((h.2.2 a ha).1 h0 ad (e1.trans hA))).1
  · rw [List.mem_singleton.1 hp] at he
    have he2 : Value.slice a.vA a.v.length a.vc = .slice B a.v.length d := he
    injection he2 with e1
    rw [List.mem_singleton.1 hp] at h3 ⊢
    by_cases h0 : a.v = []
    · dsimp only; rw [h0]; exact Rd.nil _ _
    · exact rd_keepG h3 fun ad hA => (hk _ ((h.2.2 a ha).2 h0 ad (e1.trans hA))).1
abbrev clo (wb pb : Nat) : Value := .func (.func 43) #[] #[.pointer (some ⟨wb, 0, none⟩), .pointer (some ⟨pb, 0, none⟩)]
/-- what one way back leads to -/
def GBack (Bk : Nat → Prop) (w : World) (jb : Nat) (uv : Value) (f : Value) (L : PL) : Prop := ∃ wb pb A c xs, f = clo wb pb ∧ Gd Bk w jb uv wb ∧ Gd Bk w jb uv pb ∧ w.cell? ⟨wb, 0, none⟩ = some (.slice A (xs : List Pr).length c) ∧ w.cell? ⟨pb, 0, none⟩ = some (.pointer (some ⟨jb, 0, none⟩)) ∧ GSt Bk w jb uv A c xs L
theorem GBack.keep {w w' : World} {jb : Nat} {uv uv' f : Value} {L : PL} (h : GBack Bk w jb uv f L) (hk : ∀ k, Gd Bk w jb uv k → w'.heap[k]? = w.heap[k]? ∧ Gd Bk w' jb uv' k) : GBack Bk w' jb uv' f L := by
  obtain ⟨wb, pb, A, c, xs, h1, h2, h3, h4, h5, h6⟩ := h
  exact ⟨wb, pb, A, c, xs, h1, (hk _ h2).2, (hk _ h3).2, (World.cell?_of_block (hk _ h2).1).trans h4, (World.cell?_of_block (hk _ h3).1).trans h5, h6.keep hk⟩
theorem GBack.below {w w' : World} {jb : Nat} {uv f : Value} {L : PL} (h : GBack Bk w jb uv f L) (hb : Below w.heap.size w w') : GBack Bk w' jb uv f L := h.keep fun _ hg => ⟨hb.block _ hg.1, hg.below hb⟩
/-- A JOURNAL at jb, all of whose memory lies from base on: what the store was, change by change; what it is. -/
def JnB (Bk : Nat → Prop) (w : World) (base jb : Nat) (hist : List PL) (cur : PL) : Prop := ∃ (A : Option Addr) (c : Nat) (xs : List Pr) (uv : Value) (fs : List Value),
  (w.cell? ⟨jb, 0, none⟩ = some (.slice A xs.length c) ∧ w.cell? ⟨jb, 1, none⟩ = some uv ∧ w.frozen? ⟨jb, 0, none⟩ = false ∧ w.frozen? ⟨jb, 1, none⟩ = false) ∧
  (base ≤ jb ∧ jb < w.heap.size ∧ uv.ownBlock ≠ some jb ∧ Bk jb ∧ ∀ k, uv.ownBlock = some k → Bk k) ∧ GSt Bk w jb uv A c xs cur ∧ w.ownsRow base 1 1 uv hist.length fs ∧ ∀ (i : Nat) (L : PL), hist[i]? = some L → ∃ f : Value, fs[i]? = some f ∧ GBack Bk w jb uv f L
theorem JnB.below {w w' : World} {base jb : Nat} {hist : List PL} {cur : PL} (h : JnB Bk w base jb hist cur) (hb : Below w.heap.size w w') : JnB Bk w' base jb hist cur := by
  obtain ⟨A, c, xs, uv, fs, ⟨h1, h2, h3, h4⟩, ⟨h5, h6, h7, hq⟩, h8, h9, h10⟩ := h
  refine ⟨A, c, xs, uv, fs, ⟨cell_on hb h1, cell_on hb h2, froz_on hb h6 h3, froz_on hb h6 h4⟩, ⟨h5, Nat.lt_of_lt_of_le h6 hb.size, h7, hq⟩, h8.below hb, own_below h9 hb, fun i L hi => ?_⟩
  obtain ⟨f, hf, hg⟩ := h10 i L hi
  exact ⟨f, hf, hg.below hb⟩
theorem infoF : (Try.prog.info? 1).map (fun i => (i.zero, i.size, i.bytes)) = some (some .nilFunc, 1, 8) := by kernel_rfl
theorem own_heap {w w' : World} {base : Nat} {e : TypeId} {size n : Nat} {v : Value} {xs : List Value} (h : w.ownsRow base e size v n xs) (hk : ∀ k, v.ownBlock = some k → w'.heap[k]? = w.heap[k]?) : w'.ownsRow base e size v n xs := by
  obtain ⟨hl, h⟩ := h
  refine ⟨hl, ?_⟩
  rcases h with h | ⟨g, cap, cur, rfl, h1, h2, h3⟩
  · exact .inl h
  · exact .inr ⟨g, cap, cur, rfl, h1, (hk g rfl).trans h2, h3⟩
theorem rd1 {w : World} {b : Nat} {x : Value} (h0 : w.cell? ⟨b, 0, none⟩ = some x) : Rd w (some ⟨b, 0, none⟩) [x] := by
  intro j u hj
  refine ⟨_, rfl, ?_⟩
  rw [add_none]
  rcases j with _ | j
  · cases hj; exact h0
  · simp at hj
theorem heap_set {w : World} {p : Addr} {v : Value} {k : Nat} (h : k ≠ p.block) : (w.setCell p v).heap[k]? = w.heap[k]? := by
  simp only [World.setCell, Array.getElem?_modify]
  rw [if_neg (fun e => h e.symm)]
/-- a block apart from what the journal writes to; what is apart stays as it is -/
def Apart (w : World) (jb k : Nat) : Prop := k < w.heap.size ∧ k ≠ jb ∧ ∀ uv, w.cell? ⟨jb, 1, none⟩ = some uv → uv.ownBlock ≠ some k
def Keep (w w' : World) (jb : Nat) : Prop := ∀ k, Apart w jb k → w'.heap[k]? = w.heap[k]? ∧ Apart w' jb k
theorem Keep.refl (w : World) (jb : Nat) : Keep w w jb := fun _ h => ⟨rfl, h⟩
theorem Keep.trans {w w' w2 : World} {jb : Nat} (h : Keep w w' jb) (g : Keep w' w2 jb) : Keep w w2 jb := fun k hk => ⟨(g k (h k hk).2).1.trans (h k hk).1, (g k (h k hk).2).2⟩
theorem Keep.old {w w' : World} {jb : Nat} {uv : Value} (h : w.cell? ⟨jb, 1, none⟩ = some uv) (hb : Below w.heap.size w w') : Keep w w' jb := fun k hk =>
  ⟨hb.block k hk.1, Nat.lt_of_lt_of_le hk.1 hb.size, hk.2.1, fun u hu => by
    have : u = uv := Option.some.inj (hu.symm.trans (cell_on hb h))
    subst this
    exact hk.2.2 u h⟩
theorem JnB.old {w w' : World} {base jb : Nat} {hist : List PL} {cur : PL} (h : JnB Bk w base jb hist cur) (hb : Below w.heap.size w w') : Keep w w' jb := by
  obtain ⟨A, c, xs, uv, fs, ⟨h1, h2, h3, h4⟩, _⟩ := h
  exact Keep.old h2 hb
/-- a block made after the journal's own is apart -/
theorem JnB.apart {w w' : World} {base jb k : Nat} {hist : List PL} {cur : PL} (h : JnB Bk w base jb hist cur) (hb : Below w.heap.size w w') (hk : w.heap.size ≤ k) (hk' : k < w'.heap.size) : Apart w' jb k := by
  obtain ⟨A, c, xs, uv, fs, ⟨h1, h2, h3, h4⟩, ⟨h5, h6, h7, hq⟩, h8, h9, h10⟩ := h
  refine ⟨hk', by omega, fun u hu => ?_⟩
  have : u = uv := Option.some.inj (hu.symm.trans (cell_on hb h2))
  subst this
  intro he
  have := (own_lt h9 he).2
  omega
theorem JnB.weak {Bl : Nat → Prop} {w : World} {base jb : Nat} {hist : List PL} {cur : PL} (h : JnB Bk w base jb hist cur) (hw : ∀ k, k < w.heap.size → Bk k → Bl k) : JnB Bl w base jb hist cur := by
  obtain ⟨A, c, xs, uv, fs, h1, ⟨h5, h6, h7, hq⟩, h8, h9, h10⟩ := h
  have hg : ∀ k, Gd Bk w jb uv k → Gd Bl w jb uv k := fun k hk => ⟨hk.1, hk.2.1, hk.2.2.1, hw k hk.1 hk.2.2.2⟩
  have hst : ∀ {A c xs L}, GSt Bk w jb uv A c xs L → GSt Bl w jb uv A c xs L := fun h => ⟨h.1, fun ad hA => hg _ (h.2.1 ad hA), fun x hx => ⟨fun hl ad hA => hg _ ((h.2.2 x hx).1 hl ad hA), fun hl ad hA => hg _ ((h.2.2 x hx).2 hl ad hA)⟩⟩
  refine ⟨A, c, xs, uv, fs, h1, ⟨h5, h6, h7, hw jb h6 hq.1, fun k hk => hw k (own_lt h9 hk).2 (hq.2 k hk)⟩, hst h8, h9, fun i L hi => ?_⟩
  obtain ⟨f, hf, wb, pb, A, c, xs, g1, g2, g3, g4, g5, g6⟩ := h10 i L hi
  exact ⟨f, hf, wb, pb, A, c, xs, g1, hg _ g2, hg _ g3, g4, g5, hst g6⟩
/-- memory turned that is none of the journal's -/
theorem JnB.turn {w w' : World} {base jb : Nat} {hist : List PL} {cur : PL} (h : JnB Bk w base jb hist cur) (hk : ∀ k, Bk k → k < w.heap.size → w'.heap[k]? = w.heap[k]?) (hs : w.heap.size ≤ w'.heap.size) : JnB Bk w' base jb hist cur := by
  obtain ⟨A, c, xs, uv, fs, ⟨h1, h2, h3, h4⟩, ⟨h5, h6, h7, hq⟩, h8, h9, h10⟩ := h
  have hkeep : ∀ k, Gd Bk w jb uv k → w'.heap[k]? = w.heap[k]? ∧ Gd Bk w' jb uv k := fun k hg => ⟨hk k hg.2.2.2 hg.1, Nat.lt_of_lt_of_le hg.1 hs, hg.2⟩
  have hj := hk jb hq.1 h6
  refine ⟨A, c, xs, uv, fs, ⟨(World.cell?_of_block hj).trans h1, (World.cell?_of_block hj).trans h2, (World.frozen?_of_block hj).trans h3, (World.frozen?_of_block hj).trans h4⟩, ⟨h5, Nat.lt_of_lt_of_le h6 hs, h7, hq⟩, h8.keep hkeep, own_heap h9 (fun k hk' => hk k (hq.2 k hk') (own_lt h9 hk').2), fun i L hi => ?_⟩
  obtain ⟨f, hf, hg⟩ := h10 i L hi
  exact ⟨f, hf, hg.keep hkeep⟩
abbrev Jn (w : World) (base jb : Nat) (hist : List PL) (cur : PL) : Prop := JnB (fun _ => True) w base jb hist cur
theorem Jn.below {w w' : World} {base jb : Nat} {hist : List PL} {cur : PL} (h : Jn w base jb hist cur) (hb : Below w.heap.size w w') : Jn w' base jb hist cur := JnB.below h hb
theorem jn_set {w w2 w7 : World} {base jb : Nat} {hist : List PL} {cur L : PL} {A B C7 : Option Addr} {c d q7 : Nat} {xs ys : List Pr} {uv : Value} {fs : List Value}
    (hB : ∀ k, w.heap.size ≤ k → Bk k) (h2 : w.cell? ⟨jb, 1, none⟩ = some uv) (h5 : base ≤ jb ∧ jb < w.heap.size ∧ uv.ownBlock ≠ some jb ∧ Bk jb ∧ ∀ k, uv.ownBlock = some k → Bk k) (h8 : GSt Bk w jb uv A c xs cur) (h9 : w.ownsRow base 1 1 uv hist.length fs) (h10 : ∀ (i : Nat) (L : PL), hist[i]? = some L → ∃ f : Value, fs[i]? = some f ∧ GBack Bk w jb uv f L)
    (hy : GSt Bk w jb uv B d ys L) (b2 : Below w.heap.size w w2) (n2 : w2.heap.size = w.heap.size + 2) (W2 : w2.cell? ⟨w.heap.size + 1, 0, none⟩ = some (.slice A xs.length c)) (P2 : w2.cell? ⟨w.heap.size, 0, none⟩ = some (.pointer (some ⟨jb, 0, none⟩)))
    (own7 : w7.ownsRow base 1 1 (.slice C7 (hist.length + 1) q7) (hist.length + 1) (fs ++ [clo (w.heap.size + 1) w.heap.size])) (hsz : w2.heap.size ≤ w7.heap.size)
    (hat : (Value.slice C7 (hist.length + 1) q7).ownBlock = uv.ownBlock ∨ ∃ k, (Value.slice C7 (hist.length + 1) q7).ownBlock = some k ∧ w2.heap.size ≤ k)
    (hblk : ∀ k, (k < w.heap.size ∧ uv.ownBlock ≠ some k) ∨ k = w.heap.size ∨ k = w.heap.size + 1 ∨ k = jb → w7.heap[k]? = w2.heap[k]?)
    (j0 : w7.cell? ⟨jb, 0, none⟩ = some (.slice A xs.length c)) (j1 : w7.cell? ⟨jb, 1, none⟩ = some uv) (f0 : w7.frozen? ⟨jb, 0, none⟩ = false) (f1 : w7.frozen? ⟨jb, 1, none⟩ = false) :
    JnB Bk ((w7.setCell ⟨jb, 1, none⟩ (.slice C7 (hist.length + 1) q7)).setCell ⟨jb, 0, none⟩ (.slice B ys.length d)) base jb (hist ++ [cur]) L ∧ Keep w ((w7.setCell ⟨jb, 1, none⟩ (.slice C7 (hist.length + 1) q7)).setCell ⟨jb, 0, none⟩ (.slice B ys.length d)) jb := by
  obtain ⟨h5, h6, h7, hq⟩ := h5
  have hne7 : (Value.slice C7 (hist.length + 1) q7).ownBlock ≠ some jb := by
    rcases hat with e | ⟨k, e, hk⟩
    · rw [e]; exact h7
    · rw [e]; intro he; injection he with he; omega
  have hset : ∀ k, k ≠ jb → ((w7.setCell ⟨jb, 1, none⟩ (.slice C7 (hist.length + 1) q7)).setCell ⟨jb, 0, none⟩ (.slice B ys.length d)).heap[k]? = w7.heap[k]? := fun k hk => by
    rw [heap_set hk, heap_set hk]
  have hsize : ((w7.setCell ⟨jb, 1, none⟩ (.slice C7 (hist.length + 1) q7)).setCell ⟨jb, 0, none⟩ (.slice B ys.length d)).heap.size = w7.heap.size := by simp
  have hkeep : ∀ k, Gd Bk w jb uv k → ((w7.setCell ⟨jb, 1, none⟩ (.slice C7 (hist.length + 1) q7)).setCell ⟨jb, 0, none⟩ (.slice B ys.length d)).heap[k]? = w.heap[k]? ∧ Gd Bk ((w7.setCell ⟨jb, 1, none⟩ (.slice C7 (hist.length + 1) q7)).setCell ⟨jb, 0, none⟩ (.slice B ys.length d)) jb (.slice C7 (hist.length + 1) q7) k := fun k hk => by
    refine ⟨by rw [hset k hk.2.1, hblk k (.inl ⟨hk.1, hk.2.2.1⟩), b2.block k hk.1], by rw [hsize]; have := hk.1; omega, hk.2.1, ?_, hk.2.2.2⟩
    rcases hat with e | ⟨k', e, hk'⟩
    · rw [e]; exact hk.2.2.1
    · rw [e]; intro he; injection he with he; have := hk.1; omega
  have hnew : ∀ k, k = w.heap.size ∨ k = w.heap.size + 1 → Gd Bk ((w7.setCell ⟨jb, 1, none⟩ (.slice C7 (hist.length + 1) q7)).setCell ⟨jb, 0, none⟩ (.slice B ys.length d)) jb (.slice C7 (hist.length + 1) q7) k := fun k hk => by
    refine ⟨by rw [hsize]; omega, by omega, ?_, hB k (by omega)⟩
    rcases hat with e | ⟨k', e, hk'⟩
    · rw [e]; intro he; have := (own_lt h9 he).2; omega
    · rw [e]; intro he; injection he with he; omega
  have hq7 : ∀ k, (Value.slice C7 (hist.length + 1) q7).ownBlock = some k → Bk k := fun k hk => by
    rcases hat with e | ⟨k', e, hk'⟩
    · rw [e] at hk; exact hq.2 k hk
    · rw [e] at hk; injection hk with hk; exact hB k (by omega)
  have hc1 : ((w7.setCell ⟨jb, 1, none⟩ (.slice C7 (hist.length + 1) q7)).setCell ⟨jb, 0, none⟩ (.slice B ys.length d)).cell? ⟨jb, 1, none⟩ = some (.slice C7 (hist.length + 1) q7) := by
    rw [World.cell?_setCell_other _ _ _ _ (by simp)]
    exact World.cell?_setCell_same' _ _ _ (by rw [j1]; rfl)
  refine ⟨⟨B, d, ys, _, fs ++ [clo (w.heap.size + 1) w.heap.size], ⟨?_, hc1, ?_, ?_⟩, ⟨h5, by rw [hsize]; omega, hne7, hq.1, hq7⟩, hy.keep hkeep, ?_, fun i L' hi => ?_⟩, fun k hk => ?_⟩
  · exact World.cell?_setCell_same' _ _ _ (by rw [World.cell?_setCell_other _ _ _ _ (by simp), j0]; rfl)
  · rw [World.frozen?_setCell, World.frozen?_setCell]; exact f0
  · rw [World.frozen?_setCell, World.frozen?_setCell]; exact f1
  · rw [List.length_append, List.length_singleton]
    exact own_heap own7 fun k hk => hset k (fun e => by subst e; exact hne7 hk)
  · have hfl : fs.length = hist.length := by have := h9.1; omega
    rcases Nat.lt_or_ge i hist.length with hlt | hge
    · rw [List.getElem?_append_left hlt] at hi
      obtain ⟨f, hf, hg⟩ := h10 i L' hi
      exact ⟨f, by rw [List.getElem?_append_left (by omega)]; exact hf, hg.keep hkeep⟩
    · have hil : i < (hist ++ [cur]).length := (List.getElem?_eq_some_iff.1 hi).1
      rw [List.length_append, List.length_singleton] at hil
      obtain rfl : i = hist.length := by omega
      rw [List.getElem?_append_right (Nat.le_refl _), Nat.sub_self] at hi
      injection hi with hi
      subst hi
      refine ⟨clo (w.heap.size + 1) w.heap.size, by rw [List.getElem?_append_right (by omega), hfl, Nat.sub_self]; rfl, w.heap.size + 1, w.heap.size, A, c, xs, rfl, hnew _ (.inr rfl), hnew _ (.inl rfl), ?_, ?_, h8.keep hkeep⟩
      · rw [World.cell?_of_block (w := w7) (hset (w.heap.size + 1) (by omega)), World.cell?_of_block (w := w2) (hblk (w.heap.size + 1) (.inr (.inr (.inl rfl))))]; exact W2
      · rw [World.cell?_of_block (w := w7) (hset w.heap.size (by omega)), World.cell?_of_block (w := w2) (hblk w.heap.size (.inr (.inl rfl)))]; exact P2
  · have hku := hk.2.2 uv h2
    refine ⟨by rw [hset k hk.2.1, hblk k (.inl ⟨hk.1, hku⟩), b2.block k hk.1], by rw [hsize]; have := hk.1; omega, hk.2.1, fun u hu => ?_⟩
    rw [hc1] at hu
    injection hu with hu
    rw [← hu]
    rcases hat with e | ⟨k', e, hk'⟩
    · rw [e]; exact hku
    · rw [e]; intro he; injection he with he; have := hk.1; omega
set_option maxRecDepth 100000 in
set_option maxHeartbeats 3200000 in
/-- the store is changed: the way back is kept -/
theorem set_k {w : World} {base jb : Nat} {hist : List PL} {cur L : PL} {B : Option Addr} {d : Nat} {ys : List Pr} (h : JnB Bk w base jb hist cur) (hB : ∀ k, w.heap.size ≤ k → Bk k) (hbw : base ≤ w.heap.size) (hn : hist.length ≤ 100000)
    (hy : ∀ uv, w.cell? ⟨jb, 1, none⟩ = some uv → GSt Bk w jb uv B d ys L) :
    Calls Try.prog 30 #[.pointer (some ⟨jb, 0, none⟩), .slice B ys.length d] w fun e w' => (∃ v, e = .returned v) ∧ JnB Bk w' base jb (hist ++ [cur]) L ∧ Below base w w' ∧ Keep w w' jb := by
  obtain ⟨A, c, xs, uv, fs, ⟨h1, h2, h3, h4⟩, ⟨h5, h6, h7, hq⟩, h8, h9, h10⟩ := h
  have hy := hy uv h2
  obtain ⟨w1, hw1⟩ : ∃ w1, w.alloc (.cells #[.pointer (some ⟨jb, 0, none⟩)] 25) = w1 := ⟨_, rfl⟩
  obtain ⟨w2, hw2⟩ : ∃ w2, w1.alloc (.cells #[.slice A xs.length c] 22) = w2 := ⟨_, rfl⟩
  have b1 : Below w.heap.size w w1 := by rw [← hw1]; exact below_alloc _ _
  have b12 : Below w1.heap.size w1 w2 := by rw [← hw2]; exact below_alloc _ _
  have b2 := below_step b1 b12
  have n1 : w1.heap.size = w.heap.size + 1 := by rw [← hw1]; exact size_run
  have n2 : w2.heap.size = w.heap.size + 2 := by rw [← hw2, size_run, n1]
  have P1 : w1.cell? ⟨w.heap.size, 0, none⟩ = some (.pointer (some ⟨jb, 0, none⟩)) := by
    have := box_cell w #[.pointer (some ⟨jb, 0, none⟩)] 25 0 _ rfl
    rwa [hw1] at this
  have P2 := cell_on b12 P1
  have W2 : w2.cell? ⟨w.heap.size + 1, 0, none⟩ = some (.slice A xs.length c) := by
    have := box_cell w1 #[.slice A xs.length c] 22 0 _ rfl
    rwa [hw2, n1] at this
  have J0 := cell_on b1 h1
  have J1 := cell_on b2 h2
  have jf0 := froz_on b2 h6 h3
  have jf1 := froz_on b2 h6 h4
  have own2 := own_below h9 b2
  have hnuv : uv.ownBlock ≠ some w.heap.size := fun e => by have := (own_lt h9 e).2; omega
  go_enter Try.func30, Try.ntmps30
  have PQ := fun (W : World) (hW : W.cell? ⟨w.heap.size, 0, none⟩ = some (Value.pointer (some ⟨jb, 0, none⟩))) => hW
  have bcur := (Below.refl w2.heap.size w2).drew
  have jlt2 : jb < w2.heap.size := by omega
  have own2 := own_below own2 bcur
  have J1 := cell_on bcur J1
  have jf1 := froz_on bcur jlt2 jf1
  go_upto_region 2 with fail
  refine wp_region_noPanic ?_
  refine wp_region_held_drew (S := (fun W => W.cell? ⟨w.heap.size, 0, none⟩ = some (.pointer (some ⟨jb, 0, none⟩)))) (by kernel_rfl) ?_ (fun hHeld => ?_)
  · exact P2
  refine wpAnyH_take (i := 0) (oi := ?oi1) (v := ?v1) ?hi1 (by kernel_rfl) (by kernel_rfl) (by kernel_rfl) ?hQ1 ?hy1 (by assumption) ?hrest1
  case hi1 => (simp only [List.getElem?_toArray, List.getElem?_cons_zero]; try rfl)
  case hQ1 => exact fun _ _ _ h => h
  case hy1 =>
    refine Or.inl ⟨by rfl, ?_⟩
    (intro wq hSw; (try dsimp only at hSw); go_simp; try with_reducible rfl)
  (try simp only [Act.put, List.setIfInBounds_toArray, List.set_cons_zero, List.set_cons_succ])
  refine wpAnyH_take (i := 1) (oi := ?oi2) (v := ?v2) ?hi2 (by kernel_rfl) (by kernel_rfl) (by kernel_rfl) ?hQ2 ?hy2 (by assumption) ?hrest2
  case hi2 => (simp only [List.getElem?_toArray, List.getElem?_cons_succ, List.getElem?_cons_zero]; try rfl)
  case hQ2 => exact fun _ _ _ h => h
  case hy2 =>
    refine Or.inl ⟨by rfl, ?_⟩
    (intro wq hSw; (try dsimp only at hSw); go_simp; try with_reducible rfl)
  (try simp only [Act.put, List.setIfInBounds_toArray, List.set_cons_zero, List.set_cons_succ])
  refine wpAnyH_take (i := 2) (oi := ?oi3) (v := ?v3) ?hi3 (by kernel_rfl) (by kernel_rfl) (by kernel_rfl) ?hQ3 ?hy3 (by assumption) ?hrest3
  case hi3 => (simp only [List.getElem?_toArray, List.getElem?_cons_succ, List.getElem?_cons_zero]; try rfl)
  case hQ3 => exact fun _ _ _ h => h
  case hy3 =>
    refine Or.inl ⟨by rfl, ?_⟩
    (intro wq hSw; (try dsimp only at hSw); go_simp; try with_reducible rfl)
  (try simp only [Act.put, List.setIfInBounds_toArray, List.set_cons_zero, List.set_cons_succ])
  refine wpAnyH_take (i := 3) (oi := ?oi4) (v := ?v4) ?hi4 (by kernel_rfl) (by kernel_rfl) (by kernel_rfl) ?hQ4 ?hy4 (by assumption) ?hrest4
  case hi4 => (simp only [List.getElem?_toArray, List.getElem?_cons_succ, List.getElem?_cons_zero]; try rfl)
  case hQ4 => exact fun _ _ _ h => h
  case hy4 =>
    refine Or.inl ⟨by rfl, ?_⟩
    (intro wq hSw; (try dsimp only at hSw); go_simp; try with_reducible rfl)
  (try simp only [Act.put, List.setIfInBounds_toArray, List.set_cons_zero, List.set_cons_succ])
  refine wpAnyH_take (i := 5) (oi := ?oi5) (v := ?v5) ?hi5 (by kernel_rfl) (by kernel_rfl) (by kernel_rfl) ?hQ5 ?hy5 (by assumption) ?hrest5
  case hi5 => (simp only [List.getElem?_toArray, List.getElem?_cons_succ, List.getElem?_cons_zero]; try rfl)
  case hQ5 => exact fun _ _ _ h => h
  case hy5 =>
    refine Or.inl ⟨by rfl, ?_⟩
    (intro wq hSw; (try dsimp only at hSw); go_simp; try with_reducible rfl)
  (try simp only [Act.put, List.setIfInBounds_toArray, List.set_cons_zero, List.set_cons_succ])
  refine wpAnyH_ready (rs := [4, 6]) (by kernel_rfl) (by simp) ?_
  refine AllReadyH.cons (o := ?oi6) ?hi6 (fun K hK => ?hstep6) ?hmore6
  case hi6 => (simp only [List.getElem?_toArray, List.getElem?_cons_succ, List.getElem?_cons_zero]; try rfl)
  case hstep6 =>
    go_simp
    (skip)
    refine hK.out _ _ ?_ (fun hHeld => ?_)
    · exact hHeld
    clear hK K
    (try simp only [Act.put, List.setIfInBounds_toArray, List.set_cons_zero, List.set_cons_succ])
    refine wpAnyH_ready (rs := [6]) (by kernel_rfl) (by simp) ?_
    refine AllReadyH.cons (o := ?oi7) ?hi7 (fun K hK => ?hstep7) AllReadyH.nil
    case hi7 => (simp only [List.getElem?_toArray, List.getElem?_cons_succ, List.getElem?_cons_zero]; try rfl)
    go_simp
    ((first | refine newvar_Kd ?_ | refine newvar_K ?_); intro wx hbx nv nf nz; have n0 := nv 0 _ rfl; have bcur := below_step bcur hbx; have own2 := own_below own2 hbx; have J1 := cell_on hbx J1; have jf1 := froz_on hbx (Nat.lt_of_lt_of_le jlt2 (Below.refl w2.heap.size w2).drew.size) jf1; clear nv nf)
    refine hK.out _ _ ?_ (fun hHeld => ?_)
    · exact cell_on hbx hHeld
    clear hK K
    (try simp only [Act.put, List.setIfInBounds_toArray, List.set_cons_zero, List.set_cons_succ])
    refine wpAnyH_ready (rs := [7]) (by kernel_rfl) (by simp) ?_
    refine AllReadyH.cons (o := ?oi8) ?hi8 (fun K hK => ?hstep8) AllReadyH.nil
    case hi8 => (simp only [List.getElem?_toArray, List.getElem?_cons_succ, List.getElem?_cons_zero]; try rfl)
    (have hbase : base ≤ wx.heap.size := (by have := bcur.size; omega); refine oper_app2 rfl (.tmp 13) (.tmp 15) 51 rfl base 1 Try.underlying51 infoF rfl (by decide) uv hist.length fs rfl own2 (some ⟨w.heap.size + 2, 0, none⟩) 1 1 [clo (w.heap.size + 1) w.heap.size] rfl rfl (rd1 (by rw [← n2]; exact n0)) (by intro u hu; simp at hu; subst hu; rfl) (by omega) (by omega) hbase ?_; intro v7 w7 own7 hg7 hat7; obtain ⟨C7, q7, hv7, _⟩ := own_shape own7; subst hv7; have hblk : ∀ k, (k < w.heap.size ∧ uv.ownBlock ≠ some k) ∨ k = w.heap.size ∨ k = w.heap.size + 1 ∨ k = jb → w7.heap[k]? = w2.heap[k]? := (fun k hk => by have hlt : k < w2.heap.size := (by rcases hk with hk | hk | hk | hk; have := hk.1; omega; omega; omega; omega); have hne : uv.ownBlock ≠ some k := (by rcases hk with hk | rfl | rfl | rfl; exact hk.2; exact hnuv; (intro e; have := (own_lt h9 e).2; omega); exact h7); exact (hg7.block k (Nat.lt_of_lt_of_le hlt bcur.size) (fun e => hne e.symm)).trans (bcur.block k hlt)); have J7 : w7.cell? ⟨jb, 1, none⟩ = some uv := (World.cell?_of_block (hblk jb (.inr (.inr (.inr rfl))))).trans (cell_on b2 h2); have jf7 : w7.frozen? ⟨jb, 1, none⟩ = false := (World.frozen?_of_block (hblk jb (.inr (.inr (.inr rfl))))).trans (froz_on b2 h6 h4); have J70 : w7.cell? ⟨jb, 0, none⟩ = some (.slice A xs.length c) := (World.cell?_of_block (hblk jb (.inr (.inr (.inr rfl))))).trans (cell_on b2 h1); have jf70 : w7.frozen? ⟨jb, 0, none⟩ = false := (World.frozen?_of_block (hblk jb (.inr (.inr (.inr rfl))))).trans (froz_on b2 h6 h3); have hsz7 : w2.heap.size ≤ w7.heap.size := Nat.le_trans bcur.size hg7.size; have hat8 : (Value.slice C7 (hist.length + 1) q7).ownBlock = uv.ownBlock ∨ ∃ k, (Value.slice C7 (hist.length + 1) q7).ownBlock = some k ∧ w2.heap.size ≤ k := hat7.elim .inl (fun e => .inr ⟨_, e, bcur.size⟩); have hB7 : Below base w w7 := ((b2.mono hbw).trans (bcur.mono (by omega))).grown hg7 hbase (fun k hk => (own_lt h9 hk).1))
    refine hK.out _ _ ?_ (fun hHeld => ?_)
    · exact (World.cell?_of_block (hblk w.heap.size (.inr (.inl rfl)))).trans P2
    clear hK K
    (try simp only [Act.put, List.setIfInBounds_toArray, List.set_cons_zero, List.set_cons_succ])
    refine wpAnyH_take (i := 8) (oi := ?oi9) (v := ?v9) ?hi9 (by kernel_rfl) (by kernel_rfl) (by kernel_rfl) ?hQ9 ?hy9 (by assumption) ?hrest9
    case hi9 => (simp only [List.getElem?_toArray, List.getElem?_cons_succ, List.getElem?_cons_zero]; try rfl)
    case hQ9 => exact fun _ _ _ h => h
    case hy9 =>
      refine Or.inl ⟨by rfl, ?_⟩
      (intro wq hSw; (try dsimp only at hSw); go_simp; try with_reducible rfl)
    (try simp only [Act.put, List.setIfInBounds_toArray, List.set_cons_zero, List.set_cons_succ])
    refine wpAnyH_take (i := 9) (oi := ?oi10) (v := ?v10) ?hi10 (by kernel_rfl) (by kernel_rfl) (by kernel_rfl) ?hQ10 ?hy10 (by assumption) ?hrest10
    case hi10 => (simp only [List.getElem?_toArray, List.getElem?_cons_succ, List.getElem?_cons_zero]; try rfl)
    case hQ10 => exact fun _ _ _ h => h
    case hy10 =>
      refine Or.inl ⟨by rfl, ?_⟩
      (intro wq hSw; (try dsimp only at hSw); go_simp; try with_reducible rfl)
    (try simp only [Act.put, List.setIfInBounds_toArray, List.set_cons_zero, List.set_cons_succ])
    refine wpAnyH_ready (rs := [10]) (by kernel_rfl) (by simp) ?_
    refine AllReadyH.cons (o := ?oi11) ?hi11 (fun K hK => ?hstep11) AllReadyH.nil
    case hi11 => (simp only [List.getElem?_toArray, List.getElem?_cons_succ, List.getElem?_cons_zero]; try rfl)
    go_simp
    (skip)
    refine hK.out _ _ ?_ (fun hHeld => ?_)
    · exact (World.cell?_setCell_other _ _ _ _ (fun e => by injection e with e _; omega)).trans hHeld
    clear hK K
    (try simp only [Act.put, List.setIfInBounds_toArray, List.set_cons_zero, List.set_cons_succ])
    refine wpAnyH_done (by kernel_rfl) ?_ _
    refine NoPanic.normal ?_
    (go_wp2_with fail; refine bodyPost_end (results_none rfl _ _ _) rfl ?_; have HJ := jn_set hB h2 ⟨h5, h6, h7, hq⟩ h8 h9 h10 hy b2 n2 W2 P2 own7 hsz7 hat8 hblk J70 J7 jf70 jf7; exact ⟨⟨_, rfl⟩, HJ.1, (hB7.setCell (p := ⟨jb, 1, none⟩) h5 _).setCell (p := ⟨jb, 0, none⟩) h5 _, HJ.2⟩)
  refine AllReadyH.cons (o := ?oi12) ?hi12 (fun K hK => ?hstep12) ?hmore12
  case hi12 => (simp only [List.getElem?_toArray, List.getElem?_cons_succ, List.getElem?_cons_zero]; try rfl)
  case hstep12 =>
    go_simp
    ((first | refine newvar_Kd ?_ | refine newvar_K ?_); intro wx hbx nv nf nz; have n0 := nv 0 _ rfl; have bcur := below_step bcur hbx; have own2 := own_below own2 hbx; have J1 := cell_on hbx J1; have jf1 := froz_on hbx (Nat.lt_of_lt_of_le jlt2 (Below.refl w2.heap.size w2).drew.size) jf1; clear nv nf)
    refine hK.out _ _ ?_ (fun hHeld => ?_)
    · exact cell_on hbx hHeld
    clear hK K
    (try simp only [Act.put, List.setIfInBounds_toArray, List.set_cons_zero, List.set_cons_succ])
    refine wpAnyH_ready (rs := [4]) (by kernel_rfl) (by simp) ?_
    refine AllReadyH.cons (o := ?oi13) ?hi13 (fun K hK => ?hstep13) AllReadyH.nil
    case hi13 => (simp only [List.getElem?_toArray, List.getElem?_cons_succ, List.getElem?_cons_zero]; try rfl)
    go_simp
    (skip)
    refine hK.out _ _ ?_ (fun hHeld => ?_)
    · exact hHeld
    clear hK K
    (try simp only [Act.put, List.setIfInBounds_toArray, List.set_cons_zero, List.set_cons_succ])
    refine wpAnyH_ready (rs := [7]) (by kernel_rfl) (by simp) ?_
    refine AllReadyH.cons (o := ?oi14) ?hi14 (fun K hK => ?hstep14) AllReadyH.nil
    case hi14 => (simp only [List.getElem?_toArray, List.getElem?_cons_succ, List.getElem?_cons_zero]; try rfl)
    (have hbase : base ≤ wx.heap.size := (by have := bcur.size; omega); refine oper_app2 rfl (.tmp 13) (.tmp 15) 51 rfl base 1 Try.underlying51 infoF rfl (by decide) uv hist.length fs rfl own2 (some ⟨w.heap.size + 2, 0, none⟩) 1 1 [clo (w.heap.size + 1) w.heap.size] rfl rfl (rd1 (by rw [← n2]; exact n0)) (by intro u hu; simp at hu; subst hu; rfl) (by omega) (by omega) hbase ?_; intro v7 w7 own7 hg7 hat7; obtain ⟨C7, q7, hv7, _⟩ := own_shape own7; subst hv7; have hblk : ∀ k, (k < w.heap.size ∧ uv.ownBlock ≠ some k) ∨ k = w.heap.size ∨ k = w.heap.size + 1 ∨ k = jb → w7.heap[k]? = w2.heap[k]? := (fun k hk => by have hlt : k < w2.heap.size := (by rcases hk with hk | hk | hk | hk; have := hk.1; omega; omega; omega; omega); have hne : uv.ownBlock ≠ some k := (by rcases hk with hk | rfl | rfl | rfl; exact hk.2; exact hnuv; (intro e; have := (own_lt h9 e).2; omega); exact h7); exact (hg7.block k (Nat.lt_of_lt_of_le hlt bcur.size) (fun e => hne e.symm)).trans (bcur.block k hlt)); have J7 : w7.cell? ⟨jb, 1, none⟩ = some uv := (World.cell?_of_block (hblk jb (.inr (.inr (.inr rfl))))).trans (cell_on b2 h2); have jf7 : w7.frozen? ⟨jb, 1, none⟩ = false := (World.frozen?_of_block (hblk jb (.inr (.inr (.inr rfl))))).trans (froz_on b2 h6 h4); have J70 : w7.cell? ⟨jb, 0, none⟩ = some (.slice A xs.length c) := (World.cell?_of_block (hblk jb (.inr (.inr (.inr rfl))))).trans (cell_on b2 h1); have jf70 : w7.frozen? ⟨jb, 0, none⟩ = false := (World.frozen?_of_block (hblk jb (.inr (.inr (.inr rfl))))).trans (froz_on b2 h6 h3); have hsz7 : w2.heap.size ≤ w7.heap.size := Nat.le_trans bcur.size hg7.size; have hat8 : (Value.slice C7 (hist.length + 1) q7).ownBlock = uv.ownBlock ∨ ∃ k, (Value.slice C7 (hist.length + 1) q7).ownBlock = some k ∧ w2.heap.size ≤ k := hat7.elim .inl (fun e => .inr ⟨_, e, bcur.size⟩); have hB7 : Below base w w7 := ((b2.mono hbw).trans (bcur.mono (by omega))).grown hg7 hbase (fun k hk => (own_lt h9 hk).1))
    refine hK.out _ _ ?_ (fun hHeld => ?_)
    · exact (World.cell?_of_block (hblk w.heap.size (.inr (.inl rfl)))).trans P2
    clear hK K
    (try simp only [Act.put, List.setIfInBounds_toArray, List.set_cons_zero, List.set_cons_succ])
    refine wpAnyH_take (i := 8) (oi := ?oi15) (v := ?v15) ?hi15 (by kernel_rfl) (by kernel_rfl) (by kernel_rfl) ?hQ15 ?hy15 (by assumption) ?hrest15
    case hi15 => (simp only [List.getElem?_toArray, List.getElem?_cons_succ, List.getElem?_cons_zero]; try rfl)
    case hQ15 => exact fun _ _ _ h => h
    case hy15 =>
      refine Or.inl ⟨by rfl, ?_⟩
      (intro wq hSw; (try dsimp only at hSw); go_simp; try with_reducible rfl)
    (try simp only [Act.put, List.setIfInBounds_toArray, List.set_cons_zero, List.set_cons_succ])
    refine wpAnyH_take (i := 9) (oi := ?oi16) (v := ?v16) ?hi16 (by kernel_rfl) (by kernel_rfl) (by kernel_rfl) ?hQ16 ?hy16 (by assumption) ?hrest16
    case hi16 => (simp only [List.getElem?_toArray, List.getElem?_cons_succ, List.getElem?_cons_zero]; try rfl)
    case hQ16 => exact fun _ _ _ h => h
    case hy16 =>
      refine Or.inl ⟨by rfl, ?_⟩
      (intro wq hSw; (try dsimp only at hSw); go_simp; try with_reducible rfl)
    (try simp only [Act.put, List.setIfInBounds_toArray, List.set_cons_zero, List.set_cons_succ])
    refine wpAnyH_ready (rs := [10]) (by kernel_rfl) (by simp) ?_
    refine AllReadyH.cons (o := ?oi17) ?hi17 (fun K hK => ?hstep17) AllReadyH.nil
    case hi17 => (simp only [List.getElem?_toArray, List.getElem?_cons_succ, List.getElem?_cons_zero]; try rfl)
    go_simp
    (skip)
    refine hK.out _ _ ?_ (fun hHeld => ?_)
    · exact (World.cell?_setCell_other _ _ _ _ (fun e => by injection e with e _; omega)).trans hHeld
    clear hK K
    (try simp only [Act.put, List.setIfInBounds_toArray, List.set_cons_zero, List.set_cons_succ])
    refine wpAnyH_done (by kernel_rfl) ?_ _
    refine NoPanic.normal ?_
    (go_wp2_with fail; refine bodyPost_end (results_none rfl _ _ _) rfl ?_; have HJ := jn_set hB h2 ⟨h5, h6, h7, hq⟩ h8 h9 h10 hy b2 n2 W2 P2 own7 hsz7 hat8 hblk J70 J7 jf70 jf7; exact ⟨⟨_, rfl⟩, HJ.1, (hB7.setCell (p := ⟨jb, 1, none⟩) h5 _).setCell (p := ⟨jb, 0, none⟩) h5 _, HJ.2⟩)
  exact AllReadyH.nil
end Go.Proofs.Ytlekoeddcjjjdaa
