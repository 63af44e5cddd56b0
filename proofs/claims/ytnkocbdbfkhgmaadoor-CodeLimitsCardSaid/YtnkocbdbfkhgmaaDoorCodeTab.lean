import Derived.Test.YtnkocbdbfkhgmaaDoorCodeN
import Derived.Test.YtnkocbdbfkhgmaaDoorPlain1
import Derived.Test.YtnkocbdbfkhgmaaDoorCards
import Derived.Test.YtnkocbdbfkhgmaaDoorTie
import Derived.Deep.DeepHandedRow
import Derived.Lib.LaidTab
/-! code: the signs' table as the row lists it; a module as a parameter -/
namespace Go.Proofs.YtnkocbdbfkhgmaaDoor
open Go.RowKit Go.Cov Go.ChangeShapes Go.WideShapes Go.Deep
theorem str_data (s : ByteArray) : str s.data.toList = s := by unfold str; cases s; simp
/-- an array of texts that reads as the list -/
theorem cells_of_strs {H : Type} {enc : TypeId × Value → H} {P : Program} {w : World} {base : Nat} {sp : Nat → Bool} {held : Bool} {fuel : Nat} {t e : TypeId} {n : Nat} {cs : List Value} {ss : List (List UInt8)} {p : List MemPlace}
    (ht : P.underlying t = some (.array n e)) (he : P.underlying e = some .string) (hce : P.cellsOf e = 1) (hct : P.cellsOf t = n)
    (h : DataW.trod enc P w base sp held fuel t cs = some (.agg (ss.map fun s => .lit (.string s)), p)) : cs = ss.map fun s => Value.string (str s) := by
  cases fuel with
  | zero => simp [DataW.trod] at h
  | succ fuel =>
    simp only [DataW.trod, ht, hce, hct, Nat.mul_one] at h
    split at h
    · rename_i hl
      obtain ⟨xs, hm, hx⟩ := Option.map_eq_some_iff.1 h
      have hxs : xs.map (·.1) = ss.map fun s => (DataW.lit (.string s) : DataW H) := by
        have := congrArg Prod.fst hx
        simpa using this
      have hxl : xs.length = n := by simpa using Lib.mapM_length hm
      have hzl : ss.length = n := by
        have := congrArg List.length hxs
        simp at this
        omega
      apply List.ext_getElem?
      intro i
      by_cases hi : i < n
      · obtain ⟨b, hb, hf⟩ := Lib.mapM_at hm i i (by simp [hi])
        obtain ⟨s, hc, rfl, _⟩ := DataW.trod_string he hf
        have h1 : cs[i]? = some (.string s) := by
          have := congrArg (·[0]?) hc
          simpa [List.getElem?_take, List.getElem?_drop] using this
        have h2 : (xs.map (·.1))[i]? = some (DataW.lit (.string s.data.toList) : DataW H) := by simp [hb]
        rw [hxs] at h2
        simp only [List.getElem?_map, Option.map_eq_some_iff, DataW.lit.injEq, Lit.string.injEq] at h2
        obtain ⟨z', hz', he'⟩ := h2
        rw [h1, List.getElem?_map, hz']
        simp only [Option.map_some]
        rw [he', str_data]
      · rw [List.getElem?_eq_none (by omega), List.getElem?_eq_none (by simp; omega)]
    · cases h
theorem gTab : Tryd.prog.globalNamed "covenant/code.signs" = some 0 := by kernel_rfl
theorem gTabType : (Tryd.prog.globals[0]?).map (·.type) = some 73 := by kernel_rfl
theorem cellsT : Tryd.prog.cellsOf 73 = 13 := by kernel_rfl
theorem cellsS : Tryd.prog.cellsOf 9 = 1 := by kernel_rfl
theorem tab_of {W : World} (h : laidMetH Tryd.prog Rows.codeTellsRow.laid W) : STab W := by
  have h' : laidMet Tryd.prog [("covenant/code.signs", .agg (sg.map fun s => .lit (.string s)))] W := h
  obtain ⟨ps, ⟨g', t', cs, fuel, p, q, hg', ht', hvar, hd, _, _⟩, _⟩ := h'
  obtain rfl := Option.some.inj (gTab.symm.trans hg')
  obtain rfl := Option.some.inj (gTabType.symm.trans ht')
  have hc := cells_of_strs Tryd.underlying73 Tryd.underlying9 cellsS cellsT hd
  intro k hk
  have h2 := World.var?_cell gTab hvar k
  have h3 : cs[k]? = some (.string (str (sg.getD k []))) := by
    rw [← Array.getElem?_toList, hc, List.getElem?_map, List.getElem?_eq_getElem (by simpa [sg] using hk), List.getD_eq_getElem?_getD, List.getElem?_eq_getElem (by simpa [sg] using hk)]; rfl
  simpa [h3] using h2
section
variable {H : Type} {enc : TypeId × Value → H} {W : World} {base : Nat} {spare : Nat → Bool} {held : Bool}
theorem inv_instr : ∀ n cs x, DataW.trod enc Tryd.prog W base spare held n 50 cs = some x → ∃ a : ID, cs = inEl.cells a ∧ I64 a.2 := by
  intro n cs x h
  obtain ⟨m, hl, hf⟩ := inv_struct Tryd.underlying50 h
  rw [show Tryd.prog.cellsOf 50 = 2 by kernel_rfl] at hl
  obtain ⟨y0, g0⟩ := hf 0 _ rfl
  obtain ⟨y1, g1⟩ := hf 1 _ rfl
  match cs, hl with
  | [u, v], _ =>
    replace g0 : DataW.trod enc Tryd.prog W base spare held m 48 (([u, v].drop 0).take (Tryd.prog.cellsOf 48)) = some y0 := g0
    replace g1 : DataW.trod enc Tryd.prog W base spare held m 2 (([u, v].drop 1).take (Tryd.prog.cellsOf 2)) = some y1 := g1
    rw [show Tryd.prog.cellsOf 48 = 1 by kernel_rfl] at g0
    rw [show Tryd.prog.cellsOf 2 = 1 by kernel_rfl] at g1
    obtain ⟨a, e0, s0⟩ := inv_int Tryd.underlying48 _ _ _ g0
    obtain ⟨b, e1, s1⟩ := inv_int Tryd.underlying2 _ _ _ g1
    have e0 : u = .int .i64 a := by simpa [one] using e0
    have e1 : v = .int .i64 b := by simpa [one] using e1
    exact ⟨(a, b), by rw [e0, e1]; rfl, wf64 s1⟩
theorem inv_type : ∀ n cs x, DataW.trod enc Tryd.prog W base spare held n 43 cs = some x → ∃ a : Int, cs = tyEl.cells a ∧ True := by
  intro n cs x h
  obtain ⟨a, e0, s0⟩ := inv_int Tryd.underlying43 _ _ _ h
  exact ⟨a, e0, trivial⟩
theorem els_none {α : Type} {T : El α} (hT : ∀ a, T.cons a = []) {A : Option Addr} {xs : List α} (h : Rd W A (xs.flatMap T.cells)) : Els T W A xs := ⟨h, fun a _ p hp => by rw [hT a] at hp; cases hp⟩
theorem inv_code : ∀ n cs x, DataW.trod enc Tryd.prog W base spare held n 46 cs = some x → ∃ c : Co, cs = c.cells ∧ (CoRd W c ∧ ∀ i ∈ c.is, I64 i.2) := by
  intro n cs x h
  obtain ⟨m, hl, hf⟩ := inv_struct Tryd.underlying46 h
  rw [show Tryd.prog.cellsOf 46 = 5 by kernel_rfl] at hl
  obtain ⟨y0, g0⟩ := hf 0 _ rfl
  obtain ⟨y1, g1⟩ := hf 1 _ rfl
  obtain ⟨y2, g2⟩ := hf 2 _ rfl
  obtain ⟨y3, g3⟩ := hf 3 _ rfl
  obtain ⟨y4, g4⟩ := hf 4 _ rfl
  match cs, hl with
  | [u0, u1, u2, u3, u4], _ =>
    replace g0 : DataW.trod enc Tryd.prog W base spare held m 9 (([u0, u1, u2, u3, u4].drop 0).take (Tryd.prog.cellsOf 9)) = some y0 := g0
    replace g1 : DataW.trod enc Tryd.prog W base spare held m 42 (([u0, u1, u2, u3, u4].drop 1).take (Tryd.prog.cellsOf 42)) = some y1 := g1
    replace g2 : DataW.trod enc Tryd.prog W base spare held m 43 (([u0, u1, u2, u3, u4].drop 2).take (Tryd.prog.cellsOf 43)) = some y2 := g2
    replace g3 : DataW.trod enc Tryd.prog W base spare held m 3 (([u0, u1, u2, u3, u4].drop 3).take (Tryd.prog.cellsOf 3)) = some y3 := g3
    replace g4 : DataW.trod enc Tryd.prog W base spare held m 44 (([u0, u1, u2, u3, u4].drop 4).take (Tryd.prog.cellsOf 44)) = some y4 := g4
    rw [cellsS] at g0
    rw [show Tryd.prog.cellsOf 42 = 1 by kernel_rfl] at g1
    rw [show Tryd.prog.cellsOf 43 = 1 by kernel_rfl] at g2
    rw [show Tryd.prog.cellsOf 3 = 1 by kernel_rfl] at g3
    rw [show Tryd.prog.cellsOf 44 = 1 by kernel_rfl] at g4
    obtain ⟨s, e0, _, _⟩ := DataW.trod_string Tryd.underlying9 g0
    obtain ⟨pA, pc, ps, e1, h1, h2, _, h3, _, _⟩ := open_sl (sz := 1) (α := Int) tyEl.cells (fun _ => True) Tryd.underlying42 (by kernel_rfl) (fun _ => rfl) inv_type g1
    obtain ⟨r, e2, _⟩ := inv_int Tryd.underlying43 _ _ _ g2
    obtain ⟨z, e3, _⟩ := inv_int Tryd.underlying3 _ _ _ g3
    obtain ⟨iA, ic, is, e4, k1, k2, _, k3, k4, _⟩ := open_sl (sz := 2) (α := ID) inEl.cells (fun a => I64 a.2) Tryd.underlying44 (by kernel_rfl) (fun _ => rfl) inv_instr g4
    have e0 : u0 = .string s := by simpa using e0
    have e1 : u1 = .slice pA ps.length pc := by simpa using e1
    have e2 : u2 = .int .i64 r := by simpa [one] using e2
    have e3 : u3 = .int .i64 z := by simpa [one] using e3
    have e4 : u4 = .slice iA is.length ic := by simpa using e4
    refine ⟨⟨s.data.toList, pA, pc, ps, r, z, iA, ic, is⟩, ?_, ⟨els_none (fun _ => rfl) h3, els_none (fun _ => rfl) k3, ⟨h1, h2⟩, ⟨k1, k2⟩⟩, k4⟩
    rw [e0, e1, e2, e3, e4]
    unfold Co.cells
    dsimp only
    rw [str_data]
theorem inv_text : ∀ n cs x, DataW.trod enc Tryd.prog W base spare held n 26 cs = some x → ∃ t : SlR, cs = slEl.cells t ∧ Sl W t.val t.l := by
  intro n cs x h
  obtain ⟨d, e, A, c, hd, h1, h2, h3⟩ := inv_slice Tryd.underlying26 Tryd.underlying5 (by kernel_rfl) _ _ _ h
  refine ⟨⟨A, c, d.2⟩, ?_, ⟨A, c, rfl, h1, h2, h3⟩⟩
  rw [e]
  show [d.1] = [_]
  rw [hd]; rfl
/-- a module as a parameter -/
theorem open_mod {r : Reach} {b0 : Nat} {v : Value} {d : DataW H} {p : List MemPlace} (hval : Value.okWide Tryd.prog W r b0 25 v) (h : DataW.Trod enc Tryd.prog W base spare held 25 v d p) :
    ∃ m : Mo, v = .agg #[.slice m.cA m.cs.length m.cc, .slice m.tA m.ts.length m.tc] ∧ MoRd W m ∧ intMo m.data := by
  obtain ⟨cs, rfl, hcs⟩ := okWide_struct Tryd.underlying25 hval
  obtain ⟨fuel, hf⟩ := h
  obtain ⟨m, hlen, hf⟩ := inv_struct Tryd.underlying25 hf
  rw [show Tryd.prog.cellsOf 25 = 2 by kernel_rfl, show (Value.agg cs).cells.toList = cs.toList from rfl] at hlen
  obtain ⟨y0, k0⟩ := hf 0 _ rfl
  obtain ⟨y1, k1⟩ := hf 1 _ rfl
  replace k0 : DataW.trod enc Tryd.prog W base spare held m 22 ((cs.toList.drop 0).take (Tryd.prog.cellsOf 22)) = some y0 := k0
  replace k1 : DataW.trod enc Tryd.prog W base spare held m 23 ((cs.toList.drop 1).take (Tryd.prog.cellsOf 23)) = some y1 := k1
  obtain ⟨u0, u1, hu⟩ : ∃ u0 u1, cs.toList = [u0, u1] := by
    match h : cs.toList, hlen with
    | [u0, u1], _ => exact ⟨_, _, rfl⟩
  rw [hu] at k0 k1
  rw [show Tryd.prog.cellsOf 22 = 1 by kernel_rfl] at k0
  rw [show Tryd.prog.cellsOf 23 = 1 by kernel_rfl] at k1
  obtain ⟨cA, cc, xs, e0, h1, h2, _, h3, h4, _⟩ := open_sl (sz := 5) (α := Co) Co.cells (fun c => CoRd W c ∧ ∀ i ∈ c.is, I64 i.2) Tryd.underlying22 (by kernel_rfl) (fun _ => rfl) inv_code k0
  obtain ⟨tA, tc, ts, e1, g1, g2, _, g3, g4, _⟩ := open_sl (sz := 1) (α := SlR) slEl.cells (fun t => Sl W t.val t.l) Tryd.underlying23 (by kernel_rfl) (fun _ => rfl) inv_text k1
  have e0 : u0 = .slice cA xs.length cc := by simpa using e0
  have e1 : u1 = .slice tA ts.length tc := by simpa using e1
  refine ⟨⟨cA, cc, xs, tA, tc, ts⟩, ?_, ⟨els_none (fun _ => rfl) h3, fun x hx => (h4 x hx).1, ⟨g3, fun t ht p hp => by
    have hp : p ∈ [(t.val, t.l)] := hp
    rw [List.mem_singleton.1 hp]; exact g4 t ht⟩, ⟨h1, h2⟩, ⟨g1, g2⟩⟩, fun c hc i hi => ?_⟩
  · have : cs = #[u0, u1] := by rw [← Array.toArray_toList (xs := cs), hu]
    rw [this, e0, e1]
  · obtain ⟨x, hx, rfl⟩ := List.mem_map.1 hc
    exact (h4 x hx).2 i hi
end
end Go.Proofs.YtnkocbdbfkhgmaaDoor
