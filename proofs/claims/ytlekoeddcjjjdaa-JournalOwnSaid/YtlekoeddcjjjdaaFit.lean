/-
  Lemmas of this claim's own: a law's arguments, read as data, with the bound on each slice in them. Over any program.
-/
import Derived.Test.YtlekoeddcjjjdaaOpenPairs
namespace Go.Cov
open Go.RowKit Go.ChangeShapes Go.WideShapes Go.Deep
/-- each slice and text in what was handed in is within reach -/
def Fit {H : Type} (P : Program) (t : TypeId) (d : DataW H) : Prop := ∀ n ∈ d.weights P t, n ≤ reachBytes
section
variable {H : Type} {enc : TypeId × Value → H} {P : Program} {W : World} {base : Nat} {spare : Nat → Bool} {held : Bool}
theorem fit_arg {ts : List TypeId} {ds : List (DataW H)} (h : (DataW.weightsEach P ts ds).all (· ≤ reachBytes) = true) {j : Nat} {t : TypeId} {d : DataW H} (ht : ts[j]? = some t) (hd : ds[j]? = some d) : Fit P t d := fun n hn => by
  have := List.all_eq_true.1 h _ (DataW.weights_mem_each ht hd n hn)
  simpa using this
theorem weights_mem_all {e : TypeId} : ∀ {l : List (DataW H)} {d : DataW H}, d ∈ l → ∀ n ∈ d.weights P e, n ∈ DataW.weightsAll P e l
  | [], _, h => by cases h
  | x :: l, d, h => fun n hn => by
    unfold DataW.weightsAll
    rw [List.mem_append]
    rcases List.mem_cons.1 h with rfl | h
    · exact .inl hn
    · exact .inr (weights_mem_all h n hn)
theorem fit_el {t e : TypeId} {el sp : List (DataW H)} (ht : P.underlying t = some (.slice e)) (h : Fit P t (.slice el sp)) {d : DataW H} (hd : d ∈ el) : Fit P e d := fun n hn => by
  refine h n ?_
  unfold DataW.weights
  rw [ht]
  simp only [List.mem_cons, List.mem_append]
  exact .inr (.inl (weights_mem_all hd n hn))
theorem fit_len {t e : TypeId} {el sp : List (DataW H)} (ht : P.underlying t = some (.slice e)) (h : Fit P t (.slice el sp)) : el.length * P.bytesOf e ≤ reachBytes := by
  refine Nat.le_trans (Nat.mul_le_mul_right _ (Nat.le_add_right _ sp.length)) (h _ ?_)
  unfold DataW.weights
  rw [ht]
  exact List.mem_cons_self
theorem fit_field {t : TypeId} {fs : Array Field} {ps : List (DataW H)} (ht : P.underlying t = some (.struct fs)) (h : Fit P t (.agg ps)) {i : Nat} {f : Field} {d : DataW H} (hf : fs[i]? = some f) (hd : ps[i]? = some d) : Fit P f.type d := fun n hn => by
  refine h n ?_
  unfold DataW.weights
  rw [ht]
  exact DataW.weights_mem_each (j := i) (by rw [List.getElem?_map, Array.getElem?_toList, hf]; rfl) hd n hn
/-- A slice of whatever elements, opened, each within reach. -/
theorem open_slF {α : Type} [Inhabited α] {t e sz fuel : Nat} (g : α → List Value) (Q : α → Prop) (ht : P.underlying t = some (.slice e)) (hc : P.cellsOf e = sz) (hsz : ∀ a, (g a).length = sz)
    (hinv : ∀ n cs x, DataW.trod enc P W base spare held n e cs = some x → Fit P e x.1 → ∃ a, cs = g a ∧ Q a)
    {cs : List Value} {x : DataW H × List MemPlace} (h : DataW.trod enc P W base spare held fuel t cs = some x) (hfit : Fit P t x.1) :
    ∃ (A : Option Addr) (c : Nat) (l : List α), cs = [.slice A l.length c] ∧ l.length ≤ c ∧ c ≤ maxLen ∧ (A = none → c = 0) ∧ Rd W A (l.flatMap g) ∧ (∀ a ∈ l, Q a) ∧ l.length * P.bytesOf e ≤ reachBytes := by
  rcases open_slice ht h with ⟨rfl, rfl⟩ | ⟨a, len, cap, m, n, D, Pl, rfl, _, hl, hm, hmm, rfl, hi⟩
  · exact ⟨none, 0, [], rfl, Nat.le_refl _, by simp [maxLen], fun _ => rfl, Rd.nil _ _, by simp, by simp⟩
  · have hmle : len ≤ m := by subst hmm; split <;> omega
    have hll := fit_len ht hfit
    rw [List.length_map, List.length_range] at hll
    obtain ⟨f, hf⟩ := choose_lt (n := len) (p := fun i z => Q z ∧ ∀ r, r < sz → W.cell? ((a.add (i * sz)).add r) = (g z)[r]?) (fun i hi' => by
      obtain ⟨cs', hcs, htr⟩ := hi i (by omega)
      obtain ⟨z, hz, hq⟩ := hinv _ _ _ htr (fit_el ht hfit (List.mem_map.2 ⟨i, by simpa using hi', rfl⟩))
      rw [hc] at hcs
      obtain ⟨_, _, hcell⟩ := World.cells?_some hcs
      exact ⟨z, hq, fun r hr => by rw [hcell r hr, hz]⟩)
    refine ⟨some a, cap, (List.range len).map f, by simp, by simpa using hl, hm, (fun h => by cases h), ?_, ?_, by simpa using hll⟩
    · refine rd_flat g sz hsz _ a fun i z hz r u hu => ?_
      rw [List.getElem?_map] at hz
      obtain ⟨i', hi', rfl⟩ := Option.map_eq_some_iff.1 hz
      have hlt : i < len := by simpa using (List.getElem?_eq_some_iff.1 hi').1
      have : i' = i := by simpa [hlt] using hi'.symm
      subst this
      have hr : r < sz := by rw [← hsz (f i')]; exact (List.getElem?_eq_some_iff.1 hu).1
      rw [← add_add', (hf i' hlt).2 r hr, hu]
    · intro z hz
      obtain ⟨i, hi', rfl⟩ := List.mem_map.1 hz
      exact (hf i (by simpa using hi')).1
/-- ... as a parameter -/
theorem open_argF {α : Type} [Inhabited α] {t e sz : Nat} (g : α → List Value) (Q : α → Prop) (ht : P.underlying t = some (.slice e)) (hc : P.cellsOf e = sz) (hsz : ∀ a, (g a).length = sz)
    (hinv : ∀ n cs x, DataW.trod enc P W base spare held n e cs = some x → Fit P e x.1 → ∃ a, cs = g a ∧ Q a)
    {r : Reach} {b0 : Nat} {v : Value} {d : DataW H} {p : List MemPlace} (hval : Value.okWide P W r b0 t v) (h : DataW.Trod enc P W base spare held t v d p) (hfit : Fit P t d) :
    ∃ (A : Option Addr) (c : Nat) (l : List α), v = .slice A l.length c ∧ l.length ≤ c ∧ c ≤ maxLen ∧ (A = none → c = 0) ∧ Rd W A (l.flatMap g) ∧ (∀ a ∈ l, Q a) ∧ l.length * P.bytesOf e ≤ reachBytes := by
  obtain ⟨a0, n0, c0, rfl⟩ := okWide_slice ht hval
  obtain ⟨fuel, hf⟩ := h
  obtain ⟨A, c, l, hv, r⟩ := open_slF g Q ht hc hsz hinv hf hfit
  exact ⟨A, c, l, by simpa [Value.cells] using hv, r⟩
/-- a slice of bytes within reach -/
theorem inv_sliceF {e be : TypeId} (he : P.underlying e = some (.slice be)) (hb : P.underlying be = some (.int .u8)) (hc : P.cellsOf be = 1) (hbb : P.bytesOf be = 1) :
    ∀ n cs x, DataW.trod enc P W base spare held n e cs = some x → Fit P e x.1 → ∃ a : Value × List UInt8, cs = fst1 a ∧ Sl W a.1 a.2 ∧ a.2.length ≤ 140737488351232 := by
  intro n cs x h hfit
  obtain ⟨A, c, l, rfl, h1, h2, _, h3, _, h5⟩ := open_slF (sz := 1) (one byt) (fun _ => True) he hc (fun _ => rfl) (fun n cs x hx _ => by obtain ⟨a, ha, _⟩ := inv_u8 hb n cs x hx; exact ⟨a, ha, trivial⟩) h hfit
  rw [flat_one] at h3
  exact ⟨(.slice A l.length c, l), rfl, ⟨A, c, rfl, h1, h2, h3⟩, reach1 hbb h5⟩
/-- A struct's cells, each field's by its own reading, each within reach. -/
theorem inv_structF {t fuel : Nat} {fs : Array Field} {cs : List Value} {x : DataW H × List MemPlace} (ht : P.underlying t = some (.struct fs)) (h : DataW.trod enc P W base spare held fuel t cs = some x) (hfit : Fit P t x.1) :
    ∃ m, cs.length = P.cellsOf t ∧ ∀ (i : Nat) (f : Field), fs[i]? = some f → ∃ y, DataW.trod enc P W base spare held m f.type ((cs.drop f.offset).take (P.cellsOf f.type)) = some y ∧ Fit P f.type y.1 := by
  obtain ⟨xs, n, _, rfl, hlen, hxl, hf⟩ := DataW.trod_struct ht h
  refine ⟨n, hlen, fun i f hi => ?_⟩
  have hlt : i < fs.size := (Array.getElem?_eq_some_iff.1 hi).1
  exact ⟨xs[i]'(by omega), by rw [hf i f hi, List.getElem?_eq_getElem (by omega)], fit_field ht hfit hi (by rw [List.getElem?_map, List.getElem?_eq_getElem (by omega)]; rfl)⟩
theorem reach48F {P : Program} {e n : Nat} (he : P.bytesOf e = 48) (h : n * P.bytesOf e ≤ reachBytes) : n ≤ 2932031007317 := by
  rw [he] at h; simp [reachBytes] at h; omega
/-- both texts of a pair are within reach -/
def PrFit (a : Pr) : Prop := a.k.length ≤ 140737488351232 ∧ a.v.length ≤ 140737488351232
theorem inv_pairF {t be : TypeId} {f0 f1 : Field} (ht : P.underlying t = some (.struct #[f0, f1])) (hct : P.cellsOf t = 2) (ho : f0.offset = 0 ∧ f1.offset = 1) (h0 : P.underlying f0.type = some (.slice be)) (h1 : P.underlying f1.type = some (.slice be)) (hc0 : P.cellsOf f0.type = 1 ∧ P.cellsOf f1.type = 1) (hb : P.underlying be = some (.int .u8)) (hcb : P.cellsOf be = 1) (hbb : P.bytesOf be = 1) :
    ∀ n cs x, DataW.trod enc P W base spare held n t cs = some x → Fit P t x.1 → ∃ a : Pr, cs = prEl.cells a ∧ (∀ p ∈ prEl.cons a, Sl W p.1 p.2) ∧ PrFit a := by
  intro n cs x h hfit
  obtain ⟨m, hl, hf⟩ := inv_structF ht h hfit
  rw [hct] at hl
  obtain ⟨y0, g0, t0⟩ := hf 0 f0 rfl
  obtain ⟨y1, g1, t1⟩ := hf 1 f1 rfl
  match cs, hl with
  | [u, v], _ =>
    rw [ho.1, hc0.1] at g0
    rw [ho.2, hc0.2] at g1
    obtain ⟨a, e0, s0, l0⟩ := inv_sliceF h0 hb hcb hbb _ _ _ g0 t0
    obtain ⟨b, e1, s1, l1⟩ := inv_sliceF h1 hb hcb hbb _ _ _ g1 t1
    have e0 : u = a.1 := by simpa [fst1] using e0
    have e1 : v = b.1 := by simpa [fst1] using e1
    obtain ⟨A, c, ha, r0⟩ := s0
    obtain ⟨B, d, hb', r1⟩ := s1
    refine ⟨⟨A, c, a.2, B, d, b.2⟩, ?_, ?_, l0, l1⟩
    · rw [e0, e1, ha, hb']; rfl
    · intro p hp
      rcases List.mem_cons.1 hp with rfl | hp
      · exact ⟨A, c, rfl, r0⟩
      · rw [List.mem_singleton.1 hp]; exact ⟨B, d, rfl, r1⟩
theorem open_pairsF {t e be : TypeId} {f0 f1 : Field} (hs : P.underlying t = some (.slice e)) (ht : P.underlying e = some (.struct #[f0, f1])) (hct : P.cellsOf e = 2) (ho : f0.offset = 0 ∧ f1.offset = 1) (h0 : P.underlying f0.type = some (.slice be)) (h1 : P.underlying f1.type = some (.slice be)) (hc0 : P.cellsOf f0.type = 1 ∧ P.cellsOf f1.type = 1) (hb : P.underlying be = some (.int .u8)) (hcb : P.cellsOf be = 1) (hbb : P.bytesOf be = 1)
    {r : Reach} {b0 : Nat} {v : Value} {d : DataW H} {p : List MemPlace} (hval : Value.okWide P W r b0 t v) (h : DataW.Trod enc P W base spare held t v d p) (hfit : Fit P t d) :
    ∃ (A : Option Addr) (c : Nat) (xs : List Pr), v = .slice A xs.length c ∧ xs.length ≤ c ∧ c ≤ maxLen ∧ Els prEl W A xs ∧ (∀ a ∈ xs, PrFit a) ∧ xs.length * P.bytesOf e ≤ reachBytes := by
  obtain ⟨A, c, l, hv, h1, h2, _, h3, h4, h5⟩ := open_argF (sz := 2) prEl.cells (fun a => (∀ p ∈ prEl.cons a, Sl W p.1 p.2) ∧ PrFit a) hs hct prEl.len (inv_pairF ht hct ho h0 h1 hc0 hb hcb hbb) hval h hfit
  exact ⟨A, c, l, hv, h1, h2, ⟨h3, fun a ha => (h4 a ha).1⟩, fun a ha => (h4 a ha).2, h5⟩
end
end Go.Cov
