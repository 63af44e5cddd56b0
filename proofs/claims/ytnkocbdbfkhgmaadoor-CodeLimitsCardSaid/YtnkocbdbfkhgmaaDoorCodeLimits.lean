import Derived.Test.YtnkocbdbfkhgmaaDoorCodeV
import Derived.Test.YtnkocbdbfkhgmaaDoorCodeHead
import Derived.Test.YtnkocbdbfkhgmaaDoorCodeKept
import Derived.Test.YtnkocbdbfkhgmaaDoorPlain1
import Derived.Laws.OwnMore
/-! CodeLimits: a module that is right is not, with one part more than may be. -/
namespace Go.Proofs.YtnkocbdbfkhgmaaDoor
open Go.RowKit Go.Cov
theorem infoR1 : (Tryd.prog.info? 26).map (fun i => (i.zero, i.size, i.bytes)) = some (some (.slice none 0 0), 1, 24) := by kernel_rfl
theorem made1 (w : World) (t : TypeId) : (w.alloc (.cells #[] t)).ownsRow w.heap.size t 1 (.slice (some ⟨w.heap.size, 0, none⟩) 0 0) 0 [] := World.ownsRow_made w #[] 0 (Nat.le_refl _) (by simp [maxLen]) rfl
theorem newrow1_K {K : Act → World → Prop} {a : Act} {W : World} {t : TypeId} (B : Nat) (hB : B ≤ W.heap.size)
    (h : ∀ wx r, r = W.heap.size → Below W.heap.size W wx → wx.ownsRow B t 1 (.slice (some ⟨r, 0, none⟩) 0 0) 0 [] → K a wx) : K a (W.alloc (.cells #[] t)) :=
  h _ _ rfl (below_alloc _ _) (own_mono (made1 W t) hB)
theorem newrow1_Kd {K : Act → World → Prop} {a : Act} {W : World} {t : TypeId} (B : Nat) (hB : B ≤ W.heap.size)
    (h : ∀ wx r, r = W.heap.size → Below W.drew.heap.size W.drew wx → wx.ownsRow B t 1 (.slice (some ⟨r, 0, none⟩) 0 0) 0 [] → K a wx) : K a (W.alloc (.cells #[] t)).drew :=
  h (W.drew.alloc (.cells #[] t)) _ rfl (below_alloc W.drew _) (own_mono (made1 W.drew t) hB)
theorem newvar1_K {K : Act → World → Prop} {a : Act} {W : World} {cs : Array Value} {t : TypeId}
    (h : ∀ wx r, r = W.heap.size → Below W.heap.size W wx → (∀ i v, cs[i]? = some v → wx.cell? ⟨r, i, none⟩ = some v) → (∀ i, wx.frozen? ⟨r, i, none⟩ = false) → r < wx.heap.size → K a wx) : K a (W.alloc (.cells cs t)) :=
  newvar_K fun wx h1 h2 h3 h4 => h wx _ rfl h1 h2 h3 h4
theorem newvar1_Kd {K : Act → World → Prop} {a : Act} {W : World} {cs : Array Value} {t : TypeId}
    (h : ∀ wx r, r = W.heap.size → Below W.drew.heap.size W.drew wx → (∀ i v, cs[i]? = some v → wx.cell? ⟨r, i, none⟩ = some v) → (∀ i, wx.frozen? ⟨r, i, none⟩ = false) → r < wx.heap.size → K a wx) : K a (W.alloc (.cells cs t)).drew :=
  newvar_Kd fun wx h1 h2 h3 h4 => h wx _ rfl h1 h2 h3 h4
theorem rest_elim {G : Nat → Nat → Nat → Value → Option Addr → Nat → World → Prop} {goal : Prop} (F : Nat → Nat → Nat → Value → Option Addr → Nat → World → Prop)
    (h1 : Hid (∀ r bz bs v5 C q W, F r bz bs v5 C q W → G r bz bs v5 C q W) → goal) (h2 : ∀ r bz bs v5 C q W, F r bz bs v5 C q W → G r bz bs v5 C q W) : goal := h1 (hid h2)
theorem bz_row {w : World} {b : Nat} (h : ∀ i v, (madeCells (Value.int IntKind.u8 0).cells (65 * 1))[i]? = some v → w.cell? ⟨b, i, none⟩ = some v) (g : ∀ i, w.frozen? ⟨b, i, none⟩ = false) (hb : b < w.heap.size) : Row w b ((List.replicate 65 (0 : UInt8)).map byt) :=
  ⟨hb, fun i v hv => ⟨h i v (by rw [← hv, ← Array.getElem?_toList]; rw [show (madeCells (Value.int IntKind.u8 0).cells (65 * 1)).toList = (List.replicate 65 (0 : UInt8)).map byt from by kernel_rfl]), g i⟩⟩
theorem texts_false {cA : Option Addr} {cc : Nat} {cs : List Co} (A : Option Addr) (c : Nat) (ts : List SlR) (x : SlR) (hx : x.l.length = 65) : rightMo (⟨cA, cc, cs, A, c, ts ++ [x]⟩ : Mo).data = false := by
  rw [rightMo_of, List.all_append]
  have : decide (x.l.length ≤ 64) = false := decide_eq_false (by omega)
  simp [this]
theorem texts_call {w : World} {cA : Option Addr} {cc : Nat} {cs : List Co} {tA : Option Addr} {tc : Nat} {ts : List SlR} (h : MoRd w ⟨cA, cc, cs, tA, tc, ts⟩)
    {base c bz : Nat} {A : Option Addr} (own : w.ownsRow base 26 1 (.slice A (ts.length + 1) c) (ts.length + 1) (ts.flatMap slEl.cells ++ [.slice (some ⟨bz, 0, none⟩) 65 65])) (T : Row w bz ((List.replicate 65 (0 : UInt8)).map byt)) :
    Calls Tryd.prog 17 #[.agg #[.slice cA cs.length cc, .slice A (ts.length + 1) c]] w fun e w' => e = .returned (.bool false) ∧ Below w.heap.size w w' := by
  obtain ⟨l65, hl65⟩ : ∃ l, l = List.replicate 65 (0 : UInt8) := ⟨_, rfl⟩
  have hlen : l65.length = 65 := by rw [hl65, List.length_replicate]
  rw [← hl65] at T
  clear hl65
  obtain ⟨_, _, he, hc, hm, _⟩ := own_shape own
  cases he
  have hv : (SlR.mk (some ⟨bz, 0, none⟩) 65 l65).val = .slice (some ⟨bz, 0, none⟩) 65 65 := by simp [SlR.val, hlen]
  have hT : Sl w (.slice (some ⟨bz, 0, none⟩) 65 65) l65 := ⟨_, 65, by rw [hlen], by omega, by decide, fun j u hj => ⟨_, rfl, by have e : (0 : Nat) + j = j := Nat.zero_add j; rw [add_none, e]; exact (T.2 j u hj).1⟩⟩
  have hm : MoRd w ⟨cA, cc, cs, A, c, ts ++ [⟨some ⟨bz, 0, none⟩, 65, l65⟩]⟩ := by
    refine ⟨h.c, h.r, ⟨?_, fun a ha p hp => ?_⟩, h.cc, by simpa using ⟨hc, hm⟩⟩
    · have := own_rd own
      rw [List.flatMap_append]
      simpa [slEl, hv] using this
    · rcases List.mem_append.1 ha with ha | ha
      · exact h.t.2 a ha p hp
      · rw [List.mem_singleton.1 ha] at hp
        rw [List.mem_singleton.1 hp]
        dsimp only
        rw [hv]; exact hT
  have K := right_any hm
  rw [texts_false A c ts _ hlen] at K
  simpa using K
theorem wpList_mkw {P : Program} {w : World} {ops : Array Oper} {rest : List Oper} {o : Oper} {a : Act} {Q : Exit → Act → World → Prop} (hgd : Region.wanted o (yielded ops a.tmps) = true) (l c : Operand) (t : TypeId) (ho : o.op = Op.makeSlice t l c)
    (base : Nat) (e : TypeId) {z : Value} {size bytes : Nat} (ht : P.underlying t = some (.slice e)) (hinfo : (P.info? e).map (fun i => (i.zero, i.size, i.bytes)) = some (some z, size, bytes))
    {kl kc : IntKind} {L C : Int} (n : Nat) (hl : a.eval l = .int kl L) (hc : a.eval c = .int kc C) (hL : L = (n : Int)) (hC : C = (n : Int)) (b2 : bytes * n ≤ 281474976710656) (b3 : n ≤ 9223372036854775807) (hbase : base ≤ w.heap.size)
    (hK : ∀ w', w'.ownsRow base e size (.slice (some ⟨w.heap.size, 0, none⟩) n n) n (madeCells z.cells (n * size)).toList → w.grownBy w' none → wpList P ops Q rest (a.put o.dst (.slice (some ⟨w.heap.size, 0, none⟩) n n)) w') :
    wpList P ops Q (o :: rest) a w := by
  obtain ⟨i, hi, hz0, hz1, hz2⟩ := info_parts hinfo
  refine wpList_wanted hgd fun K hK' => ?_
  obtain ⟨w', hrun, r1, r2⟩ := run_make_full (P := P) w base t e i z size ht hi hz0 hz1 kl kc n (by rw [hz2]; exact b2) (by simp only [maxLen]; omega) hbase
  subst hL
  subst hC
  unfold Oper.wp
  simp [execOp, ho, hl, hc, hrun, Result.andThen]
  exact hK' _ _ (hK w' r1 r2)
def tyk (k : Nat) : List Value := List.replicate k (.int .i64 1) ++ List.replicate (17 - k) (.int .i64 0)
theorem tyk_set (k : Nat) (h : k < 17) : (tyk k).set k (.int .i64 1) = tyk (k + 1) := by
  unfold tyk
  rw [List.set_append_right _ _ (by simp), List.length_replicate, Nat.sub_self, show 17 - k = (17 - (k + 1)) + 1 from by omega, List.replicate_succ, List.set_cons_zero, List.replicate_succ', List.append_assoc]
  rfl
theorem tyk_at (k : Nat) (h : k < 17) : (tyk k)[k]? = some (.int .i64 0) := by
  unfold tyk
  rw [List.getElem?_append_right (by simp), List.length_replicate, Nat.sub_self, show 17 - k = (17 - (k + 1)) + 1 from by omega, List.replicate_succ]
  rfl
theorem tyk_made : (madeCells (Value.int IntKind.i64 0).cells (17 * 1)).toList = tyk 0 := by kernel_rfl
theorem ty_els {w : World} {kT n : Nat} (h : Rd w (some ⟨kT, 0, none⟩) (tyk 17)) (hn : n ≤ 17) : Els tyEl w (some ⟨kT, 0, none⟩) (List.replicate n 1) := by
  refine ⟨fun j u hj => h j u ?_, fun a _ p hp => by cases hp⟩
  have e : (List.replicate n (1 : Int)).flatMap tyEl.cells = List.replicate n (.int .i64 1) := by
    clear hj hn
    induction n with
    | zero => rfl
    | succ n ih => rw [List.replicate_succ, List.flatMap_cons, ih, List.replicate_succ]; rfl
  rw [e] at hj
  have hjn : j < n := by have := (List.getElem?_eq_some_iff.1 hj).1; simpa using this
  rw [List.getElem?_replicate, if_pos hjn] at hj
  show (List.replicate 17 (Value.int .i64 1) ++ [])[j]? = some u
  rw [List.append_nil, List.getElem?_replicate, if_pos (by omega)]
  exact hj
theorem ins_zero (n : Nat) : (List.replicate n ((0 : Int), (0 : Int))).flatMap inEl.cells = List.replicate (n * 2) (.int .i64 0) := by
  induction n with
  | zero => rfl
  | succ n ih => rw [List.replicate_succ, List.flatMap_cons, ih, show (n + 1) * 2 = n * 2 + 1 + 1 from by omega, List.replicate_succ, List.replicate_succ]; rfl
theorem ins_made (n : Nat) : (madeCells (Value.agg #[.int .i64 0, .int .i64 0]).cells n).toList = List.replicate n (.int .i64 0) := by
  have hs : (Value.agg #[Value.int .i64 0, .int .i64 0]).cells = #[.int .i64 0, .int .i64 0] := by kernel_rfl
  rw [hs]
  apply List.ext_getElem?
  intro j
  rw [List.getElem?_replicate]
  unfold madeCells
  rw [Array.getElem?_toList, Array.getElem?_map]
  by_cases h : j < n
  · rw [if_pos h, Array.getElem?_range, if_pos h]
    rcases Nat.mod_two_eq_zero_or_one j with e | e <;> simp [e]
  · rw [if_neg h, Array.getElem?_range, if_neg h]; rfl
theorem ins_ready {w : World} {b : Nat} (h : Rd w (some ⟨b, 0, none⟩) (List.replicate (16385 * 2) (.int .i64 0))) : ∃ l : List ID, l.length = 16385 ∧ Els inEl w (some ⟨b, 0, none⟩) l :=
  ⟨List.replicate 16385 (0, 0), List.length_replicate, by rw [ins_zero]; exact h, fun a _ p hp => by cases hp⟩
theorem rc_a : rightC (Co.data ⟨[], none, 0, List.replicate 16 1, 0, 16, none, 0, []⟩) = true := by decide +kernel
theorem rc_i (is : List ID) (h : is.length = 16385) : rightC (Co.data ⟨[], none, 0, [], 0, 0, none, 0, is⟩) = false := by
  unfold Co.data
  rw [rightC_of, decide_eq_false (show ¬ is.length ≤ 16384 by omega)]
  simp
theorem co_rd {w : World} {nm : List UInt8} {pA : Option Addr} {pc : Nat} {ps : List Int} {res slots : Int} {iA : Option Addr} {ic : Nat} {is : List ID} (h1 : Els tyEl w pA ps) (h2 : Els inEl w iA is) (h3 : ps.length ≤ pc ∧ pc ≤ maxLen) (h4 : is.length ≤ ic ∧ ic ≤ maxLen) : CoRd w ⟨nm, pA, pc, ps, res, slots, iA, ic, is⟩ := ⟨h1, h2, h3, h4⟩
set_option maxRecDepth 100000 in
set_option maxHeartbeats 25600000 in
theorem limits_law {w : World} {m : Mo} (h : MoRd w m) (ht : STab w) :
    Calls Tryd.prog 9 #[.agg #[.slice m.cA m.cs.length m.cc, .slice m.tA m.ts.length m.tc]] w fun e w' => e = .returned (.bool true) ∧ Below w.heap.size w w' := by
  obtain ⟨cA, cc, cs, tA, tc, ts⟩ := m
  dsimp only
  have b0 := below_alloc w (.cells #[.slice cA cs.length cc, .slice tA ts.length tc] 25)
  have R0 := Row.new w [.slice cA cs.length cc, .slice tA ts.length tc] 25
  change Row (w.alloc (.cells #[.slice cA cs.length cc, .slice tA ts.length tc] 25)) _ _ at R0
  replace R0 := hid R0
  have h1 := hid (h.below b0)
  replace ht := hid (ht.below b0)
  clear h
  go_enter Tryd.func9, Tryd.ntmps9
  go_upto_region 1 with fail
  obtain ⟨kM, hkM⟩ : ∃ k, k = w.heap.size := ⟨_, rfl⟩
  generalize w.alloc (.cells #[.slice cA cs.length cc, .slice tA ts.length tc] 25) = w1 at b0 R0 h1 ht ⊢
  rw [← hkM] at R0 ⊢
  replace hkM := hid hkM
  go_wp2_with fail
  refine (head_any w1 ht.out).mono ?_
  rintro e w2 ⟨rfl, hb⟩
  clear ht
  replace R0 := hid (R0.out.below hb)
  replace h1 := hid (h1.out.below hb)
  replace b0 := below_step b0 hb
  clear hb
  have K := great_any h1.out
  dsimp only at K
  replace K := hid K
  have C0 := (R0.out.2 0 _ rfl).1
  have C1 := (R0.out.2 1 _ rfl).1
  go_wp2_with fail
  refine K.out.mono ?_
  rintro e w3 ⟨q, rfl, hb⟩
  clear K C0 C1
  replace R0 := hid (R0.out.below hb)
  replace h1 := hid (h1.out.below hb)
  replace b0 := below_step b0 hb
  clear hb
  cases q
  case true =>
    go_wp2_with fail
    go_ret
    exact ⟨rfl, b0⟩
  have K := right_any h1.out
  obtain ⟨is, his⟩ : ∃ r, rightMo (⟨cA, cc, cs, tA, tc, ts⟩ : Mo).data = r := ⟨_, rfl⟩
  rw [his] at K
  dsimp only at K
  replace K := hid K
  replace his := hid his
  have C0 := (R0.out.2 0 _ rfl).1
  have C1 := (R0.out.2 1 _ rfl).1
  go_wp2_with fail
  refine K.out.mono ?_
  rintro e w4 ⟨rfl, hb⟩
  clear K C0 C1
  replace R0 := hid (R0.out.below hb)
  replace h1 := hid (h1.out.below hb)
  replace b0 := below_step b0 hb
  clear hb
  cases is
  case false =>
    go_wp2_with fail
    go_ret
    exact ⟨rfl, b0⟩
  have hcm : cs.length ≤ 9223372036854775807 := code_len h1.out.cc
  obtain ⟨qg, hqg⟩ : ∃ q, decide ((40 : Int) < cs.length) = q := ⟨_, rfl⟩
  have C0 := (R0.out.2 0 _ rfl).1
  have C1 := (R0.out.2 1 _ rfl).1
  cases qg
  case true =>
    go_wp2_with fail
    go_ret
    exact ⟨rfl, b0⟩
  have h40 : cs.length ≤ 40 := by have := of_decide_eq_false hqg; omega
  have h40 := hid h40
  have htm := hid (show ts.length ≤ 1024 from by have := rightMo_of (⟨cA, cc, cs, tA, tc, ts⟩ : Mo); rw [his.out] at this; simp only [Bool.true_eq, Bool.and_eq_true, decide_eq_true_eq] at this; exact this.2.1)
  go_upto_region 5 with fail
  clear hqg C0 C1
  have d1 := fun W (hW : Below w4.heap.size w4 W) => cell_on hW (R0.out.2 1 _ rfl).1
  have hE := hid (fun (W : World) (hW : Below w4.heap.size w4 W) => (h1.out.below hW).t.1)
  have ht1 := htm.out
  obtain ⟨B0, hB0⟩ : ∃ B, B = w4.heap.size := ⟨_, rfl⟩
  apply rest_elim (fun r bz bs v5 C q W => Hid (W.ownsRow B0 26 1 (.slice C (ts.length + 1) q) (ts.length + 1) (ts.flatMap slEl.cells ++ [.slice (some ⟨bz, 0, none⟩) 65 65]) ∧ Row W bz ((List.replicate 65 (0 : UInt8)).map byt) ∧ Below w4.heap.size w4 W))
  · intro REST
    have e65 : (IntKind.i64.wrap 65).toNat = 65 := by decide
    have bcur := (Below.refl w4.heap.size w4).drew
    refine wp_region_noPanic ?_
    refine wp_region_held_drew (S := (fun W => Below w4.heap.size w4 W)) (by kernel_rfl) ?_ (fun hHeld => ?_)
    · exact (Below.refl _ _).drew
    refine wpAnyH_take (i := 1) (oi := ?oi1) (v := ?v1) ?hi1 (by kernel_rfl) (by kernel_rfl) (by kernel_rfl) ?hQ1 ?hy1 (by assumption) ?hrest1
    case hi1 => (simp only [List.getElem?_toArray, List.getElem?_cons_succ, List.getElem?_cons_zero]; try rfl)
    case hQ1 => exact fun _ _ _ h => h
    case hy1 =>
      refine Or.inl ⟨by rfl, ?_⟩
      (intro wq hSw; (try dsimp only at hSw); go_simp; try with_reducible rfl)
    (try simp only [Act.put, List.setIfInBounds_toArray, List.set_cons_zero, List.set_cons_succ])
    refine wpAnyH_take (i := 2) (oi := ?oi2) (v := ?v2) ?hi2 (by kernel_rfl) (by kernel_rfl) (by kernel_rfl) ?hQ2 ?hy2 (by assumption) ?hrest2
    case hi2 => (simp only [List.getElem?_toArray, List.getElem?_cons_succ, List.getElem?_cons_zero]; try rfl)
    case hQ2 => exact fun _ _ _ h => h
    case hy2 =>
      refine Or.inl ⟨by rfl, ?_⟩
      (intro wq hSw; (try dsimp only at hSw); go_simp; try with_reducible rfl)
    (try simp only [Act.put, List.setIfInBounds_toArray, List.set_cons_zero, List.set_cons_succ])
    refine wpAnyH_ready (rs := [0, 4]) (by kernel_rfl) (by simp) ?_
    refine AllReadyH.cons (o := ?oi3) ?hi3 (fun K hK => ?hstep3) ?hmore3
    case hi3 => (simp only [List.getElem?_toArray, List.getElem?_cons_zero]; try rfl)
    case hstep3 =>
      go_simp
      (have hs0 : B0 ≤ _ := hB0 ▸ bcur.size; (try have T0 := T.1); (try have M0 := cell_lt m0); (first | refine newrow1_Kd B0 hs0 ?_ | refine newrow1_Kd B0 (Nat.le_of_eq hB0) ?_ | refine newrow1_K B0 hs0 ?_); intro wx r hr hbx hmo; (first | rw [← hr] | rw [show w4.heap.size = r from hr.symm] | rw [show w4.drew.heap.size = r from hr.symm]); have hlr := Nat.le_of_eq hr.symm; clear hr; (try simp only [e65]); have hne := (own_lt hmo rfl).2; dsimp only at hne; have bcur := below_step bcur hbx; (try have T := T.below hbx); (try have m0 := cell_on hbx m0))
      refine hK.out _ _ ?_ (fun hHeld => ?_)
      · exact bcur
      clear hK K
      (try simp only [Act.put, List.setIfInBounds_toArray, List.set_cons_zero, List.set_cons_succ])
      refine wpAnyH_ready (rs := [3, 4]) (by kernel_rfl) (by simp) ?_
      refine AllReadyH.cons (o := ?oi4) ?hi4 (fun K hK => ?hstep4) ?hmore4
      case hi4 => (simp only [List.getElem?_toArray, List.getElem?_cons_succ, List.getElem?_cons_zero]; try rfl)
      case hstep4 =>
        ((try have T1 := T.1); (try have M1 := cell_lt m0); refine oper_app2 rfl (.tmp 24) (.tmp 26) 23 rfl B0 26 Tryd.underlying23 infoR1 rfl (by decide) _ 0 [] rfl hmo tA ts.length tc (ts.flatMap slEl.cells) rfl (slEl.flat_len _) (hE.out _ bcur) (slEl.flat_one _) (by omega) (by omega) (hB0 ▸ bcur.size) ?_; intro v5 wx hin5 hg5 hat5; have hap := fun k (hk : v5.ownBlock = some k) => (show k = r ∨ k = _ from hat5.elim (fun e => .inl (Option.some.inj (hk.symm.trans e))) (fun e => .inr (Option.some.inj (hk.symm.trans e)))); have hap2 := hap; have bcur := bcur.grown hg5 bcur.size (fun k hk => by have := (own_lt hmo hk).1; omega); (try have T := T.grown hg5 (fun e => by have e := Option.some.inj e; dsimp only [Value.ownBlock] at e; omega)); (try have m0 := hg5.cell m0 (fun e => by have e := Option.some.inj e; dsimp only [Value.ownBlock] at e; omega)); clear hat5)
        refine hK.out _ _ ?_ (fun hHeld => ?_)
        · exact bcur
        clear hK K
        (try simp only [Act.put, List.setIfInBounds_toArray, List.set_cons_zero, List.set_cons_succ])
        refine wpAnyH_ready (rs := [4]) (by kernel_rfl) (by simp) ?_
        refine AllReadyH.cons (o := ?oi5) ?hi5 (fun K hK => ?hstep5) AllReadyH.nil
        case hi5 => (simp only [List.getElem?_toArray, List.getElem?_cons_succ, List.getElem?_cons_zero]; try rfl)
        go_simp
        ((try have hap := fun k (hk : v5.ownBlock = some k) => (own_lt hin5 hk).2); (try have hnx := (own_lt hmo rfl).2; dsimp only at hnx); (first | refine newvar1_Kd ?_ | refine newvar1_K ?_); intro wx bz hbz hbx nv nf nz; (first | rw [← hbz] | rw [show w4.heap.size = bz from hbz.symm] | rw [show w4.drew.heap.size = bz from hbz.symm]); have hlbz := Nat.le_of_eq hbz.symm; clear hbz; (try simp only [e65]); have T := bz_row nv nf nz; have bcur := below_step bcur hbx; (try have hmo := own_below hmo hbx); (try have hin5 := own_below hin5 hbx); clear nv nf)
        refine hK.out _ _ ?_ (fun hHeld => ?_)
        · exact bcur
        clear hK K
        (try simp only [Act.put, List.setIfInBounds_toArray, List.set_cons_zero, List.set_cons_succ])
        refine wpAnyH_ready (rs := [5]) (by kernel_rfl) (by simp) ?_
        refine AllReadyH.cons (o := ?oi6) ?hi6 (fun K hK => ?hstep6) AllReadyH.nil
        case hi6 => (simp only [List.getElem?_toArray, List.getElem?_cons_succ, List.getElem?_cons_zero]; try rfl)
        go_simp
        ((try have hap2 := fun k (hk : v5.ownBlock = some k) => (own_lt hin5 hk).2); (try have hny := (own_lt hmo rfl).2; dsimp only at hny); (first | refine newvar1_Kd ?_ | refine newvar1_K ?_); intro wx bs hbs hbx nv nf nz; (first | rw [← hbs] | rw [show w4.heap.size = bs from hbs.symm] | rw [show w4.drew.heap.size = bs from hbs.symm]); have hlbs := Nat.le_of_eq hbs.symm; clear hbs; (try simp only [e65]); have m0 := nv 0 _ rfl; have bcur := below_step bcur hbx; (try have T := T.below hbx); (try have hmo := own_below hmo hbx); (try have hin5 := own_below hin5 hbx); clear nv nf)
        refine hK.out _ _ ?_ (fun hHeld => ?_)
        · exact bcur
        clear hK K
        (try simp only [Act.put, List.setIfInBounds_toArray, List.set_cons_zero, List.set_cons_succ])
        refine wpAnyH_ready (rs := [6]) (by kernel_rfl) (by simp) ?_
        refine AllReadyH.cons (o := ?oi7) ?hi7 (fun K hK => ?hstep7) AllReadyH.nil
        case hi7 => (simp only [List.getElem?_toArray, List.getElem?_cons_succ, List.getElem?_cons_zero]; try rfl)
        (refine oper_app2 rfl (.tmp 27) (.tmp 29) 23 rfl B0 26 Tryd.underlying23 infoR1 rfl (by decide) v5 (0 + ts.length) ([] ++ ts.flatMap slEl.cells) rfl hin5 (some ⟨bs, 0, none⟩) 1 1 [.slice (some ⟨bz, 0, none⟩) 65 65] rfl rfl (rdq1 m0) (by intro u hu; rw [List.mem_singleton.1 hu]; rfl) (by omega) (by omega) (hB0 ▸ bcur.size) ?_; intro v8 wx hin8 hg8 hat8; rw [Nat.zero_add, List.nil_append] at hin8; obtain ⟨C8, q8, hv8, hq8, hq9, _⟩ := own_shape hin8; subst hv8; have bcur := bcur.grown hg8 bcur.size (fun k hk => by have := (own_lt hin5 hk).1; omega); have T := T.grown hg8 (fun e => by have := hap _ e; omega))
        refine hK.out _ _ ?_ (fun hHeld => ?_)
        · exact bcur
        clear hK K
        (try simp only [Act.put, List.setIfInBounds_toArray, List.set_cons_zero, List.set_cons_succ])
        refine wpAnyH_take (i := 7) (oi := ?oi8) (v := ?v8) ?hi8 (by kernel_rfl) (by kernel_rfl) (by kernel_rfl) ?hQ8 ?hy8 (by assumption) ?hrest8
        case hi8 => (simp only [List.getElem?_toArray, List.getElem?_cons_succ, List.getElem?_cons_zero]; try rfl)
        case hQ8 => exact fun _ _ _ h => h
        case hy8 =>
          refine Or.inl ⟨by rfl, ?_⟩
          (intro wq hSw; (try dsimp only at hSw); go_simp; try with_reducible rfl)
        (try simp only [Act.put, List.setIfInBounds_toArray, List.set_cons_zero, List.set_cons_succ])
        refine wpAnyH_done (by kernel_rfl) ?_ _
        refine NoPanic.normal ?_
        (exact REST.out r bz bs v5 C8 q8 wx (hid ⟨hin8, T, bcur⟩))
      refine AllReadyH.cons (o := ?oi9) ?hi9 (fun K hK => ?hstep9) ?hmore9
      case hi9 => (simp only [List.getElem?_toArray, List.getElem?_cons_succ, List.getElem?_cons_zero]; try rfl)
      case hstep9 =>
        go_simp
        ((try have hap := fun k (hk : v5.ownBlock = some k) => (own_lt hin5 hk).2); (try have hnx := (own_lt hmo rfl).2; dsimp only at hnx); (first | refine newvar1_Kd ?_ | refine newvar1_K ?_); intro wx bz hbz hbx nv nf nz; (first | rw [← hbz] | rw [show w4.heap.size = bz from hbz.symm] | rw [show w4.drew.heap.size = bz from hbz.symm]); have hlbz := Nat.le_of_eq hbz.symm; clear hbz; (try simp only [e65]); have T := bz_row nv nf nz; have bcur := below_step bcur hbx; (try have hmo := own_below hmo hbx); (try have hin5 := own_below hin5 hbx); clear nv nf)
        refine hK.out _ _ ?_ (fun hHeld => ?_)
        · exact bcur
        clear hK K
        (try simp only [Act.put, List.setIfInBounds_toArray, List.set_cons_zero, List.set_cons_succ])
        refine wpAnyH_ready (rs := [3, 5]) (by kernel_rfl) (by simp) ?_
        refine AllReadyH.cons (o := ?oi10) ?hi10 (fun K hK => ?hstep10) ?hmore10
        case hi10 => (simp only [List.getElem?_toArray, List.getElem?_cons_succ, List.getElem?_cons_zero]; try rfl)
        case hstep10 =>
          ((try have T1 := T.1); (try have M1 := cell_lt m0); refine oper_app2 rfl (.tmp 24) (.tmp 26) 23 rfl B0 26 Tryd.underlying23 infoR1 rfl (by decide) _ 0 [] rfl hmo tA ts.length tc (ts.flatMap slEl.cells) rfl (slEl.flat_len _) (hE.out _ bcur) (slEl.flat_one _) (by omega) (by omega) (hB0 ▸ bcur.size) ?_; intro v5 wx hin5 hg5 hat5; have hap := fun k (hk : v5.ownBlock = some k) => (show k = r ∨ k = _ from hat5.elim (fun e => .inl (Option.some.inj (hk.symm.trans e))) (fun e => .inr (Option.some.inj (hk.symm.trans e)))); have hap2 := hap; have bcur := bcur.grown hg5 bcur.size (fun k hk => by have := (own_lt hmo hk).1; omega); (try have T := T.grown hg5 (fun e => by have e := Option.some.inj e; dsimp only [Value.ownBlock] at e; omega)); (try have m0 := hg5.cell m0 (fun e => by have e := Option.some.inj e; dsimp only [Value.ownBlock] at e; omega)); clear hat5)
          refine hK.out _ _ ?_ (fun hHeld => ?_)
          · exact bcur
          clear hK K
          (try simp only [Act.put, List.setIfInBounds_toArray, List.set_cons_zero, List.set_cons_succ])
          refine wpAnyH_ready (rs := [5]) (by kernel_rfl) (by simp) ?_
          refine AllReadyH.cons (o := ?oi11) ?hi11 (fun K hK => ?hstep11) AllReadyH.nil
          case hi11 => (simp only [List.getElem?_toArray, List.getElem?_cons_succ, List.getElem?_cons_zero]; try rfl)
          go_simp
          ((try have hap2 := fun k (hk : v5.ownBlock = some k) => (own_lt hin5 hk).2); (try have hny := (own_lt hmo rfl).2; dsimp only at hny); (first | refine newvar1_Kd ?_ | refine newvar1_K ?_); intro wx bs hbs hbx nv nf nz; (first | rw [← hbs] | rw [show w4.heap.size = bs from hbs.symm] | rw [show w4.drew.heap.size = bs from hbs.symm]); have hlbs := Nat.le_of_eq hbs.symm; clear hbs; (try simp only [e65]); have m0 := nv 0 _ rfl; have bcur := below_step bcur hbx; (try have T := T.below hbx); (try have hmo := own_below hmo hbx); (try have hin5 := own_below hin5 hbx); clear nv nf)
          refine hK.out _ _ ?_ (fun hHeld => ?_)
          · exact bcur
          clear hK K
          (try simp only [Act.put, List.setIfInBounds_toArray, List.set_cons_zero, List.set_cons_succ])
          refine wpAnyH_ready (rs := [6]) (by kernel_rfl) (by simp) ?_
          refine AllReadyH.cons (o := ?oi12) ?hi12 (fun K hK => ?hstep12) AllReadyH.nil
          case hi12 => (simp only [List.getElem?_toArray, List.getElem?_cons_succ, List.getElem?_cons_zero]; try rfl)
          (refine oper_app2 rfl (.tmp 27) (.tmp 29) 23 rfl B0 26 Tryd.underlying23 infoR1 rfl (by decide) v5 (0 + ts.length) ([] ++ ts.flatMap slEl.cells) rfl hin5 (some ⟨bs, 0, none⟩) 1 1 [.slice (some ⟨bz, 0, none⟩) 65 65] rfl rfl (rdq1 m0) (by intro u hu; rw [List.mem_singleton.1 hu]; rfl) (by omega) (by omega) (hB0 ▸ bcur.size) ?_; intro v8 wx hin8 hg8 hat8; rw [Nat.zero_add, List.nil_append] at hin8; obtain ⟨C8, q8, hv8, hq8, hq9, _⟩ := own_shape hin8; subst hv8; have bcur := bcur.grown hg8 bcur.size (fun k hk => by have := (own_lt hin5 hk).1; omega); have T := T.grown hg8 (fun e => by have := hap _ e; omega))
          refine hK.out _ _ ?_ (fun hHeld => ?_)
          · exact bcur
          clear hK K
          (try simp only [Act.put, List.setIfInBounds_toArray, List.set_cons_zero, List.set_cons_succ])
          refine wpAnyH_take (i := 7) (oi := ?oi13) (v := ?v13) ?hi13 (by kernel_rfl) (by kernel_rfl) (by kernel_rfl) ?hQ13 ?hy13 (by assumption) ?hrest13
          case hi13 => (simp only [List.getElem?_toArray, List.getElem?_cons_succ, List.getElem?_cons_zero]; try rfl)
          case hQ13 => exact fun _ _ _ h => h
          case hy13 =>
            refine Or.inl ⟨by rfl, ?_⟩
            (intro wq hSw; (try dsimp only at hSw); go_simp; try with_reducible rfl)
          (try simp only [Act.put, List.setIfInBounds_toArray, List.set_cons_zero, List.set_cons_succ])
          refine wpAnyH_done (by kernel_rfl) ?_ _
          refine NoPanic.normal ?_
          (exact REST.out r bz bs v5 C8 q8 wx (hid ⟨hin8, T, bcur⟩))
        refine AllReadyH.cons (o := ?oi14) ?hi14 (fun K hK => ?hstep14) ?hmore14
        case hi14 => (simp only [List.getElem?_toArray, List.getElem?_cons_succ, List.getElem?_cons_zero]; try rfl)
        case hstep14 =>
          go_simp
          ((try have hap2 := fun k (hk : v5.ownBlock = some k) => (own_lt hin5 hk).2); (try have hny := (own_lt hmo rfl).2; dsimp only at hny); (first | refine newvar1_Kd ?_ | refine newvar1_K ?_); intro wx bs hbs hbx nv nf nz; (first | rw [← hbs] | rw [show w4.heap.size = bs from hbs.symm] | rw [show w4.drew.heap.size = bs from hbs.symm]); have hlbs := Nat.le_of_eq hbs.symm; clear hbs; (try simp only [e65]); have m0 := nv 0 _ rfl; have bcur := below_step bcur hbx; (try have T := T.below hbx); (try have hmo := own_below hmo hbx); (try have hin5 := own_below hin5 hbx); clear nv nf)
          refine hK.out _ _ ?_ (fun hHeld => ?_)
          · exact bcur
          clear hK K
          (try simp only [Act.put, List.setIfInBounds_toArray, List.set_cons_zero, List.set_cons_succ])
          refine wpAnyH_ready (rs := [3]) (by kernel_rfl) (by simp) ?_
          refine AllReadyH.cons (o := ?oi15) ?hi15 (fun K hK => ?hstep15) AllReadyH.nil
          case hi15 => (simp only [List.getElem?_toArray, List.getElem?_cons_succ, List.getElem?_cons_zero]; try rfl)
          ((try have T1 := T.1); (try have M1 := cell_lt m0); refine oper_app2 rfl (.tmp 24) (.tmp 26) 23 rfl B0 26 Tryd.underlying23 infoR1 rfl (by decide) _ 0 [] rfl hmo tA ts.length tc (ts.flatMap slEl.cells) rfl (slEl.flat_len _) (hE.out _ bcur) (slEl.flat_one _) (by omega) (by omega) (hB0 ▸ bcur.size) ?_; intro v5 wx hin5 hg5 hat5; have hap := fun k (hk : v5.ownBlock = some k) => (show k = r ∨ k = _ from hat5.elim (fun e => .inl (Option.some.inj (hk.symm.trans e))) (fun e => .inr (Option.some.inj (hk.symm.trans e)))); have hap2 := hap; have bcur := bcur.grown hg5 bcur.size (fun k hk => by have := (own_lt hmo hk).1; omega); (try have T := T.grown hg5 (fun e => by have e := Option.some.inj e; dsimp only [Value.ownBlock] at e; omega)); (try have m0 := hg5.cell m0 (fun e => by have e := Option.some.inj e; dsimp only [Value.ownBlock] at e; omega)); clear hat5)
          refine hK.out _ _ ?_ (fun hHeld => ?_)
          · exact bcur
          clear hK K
          (try simp only [Act.put, List.setIfInBounds_toArray, List.set_cons_zero, List.set_cons_succ])
          refine wpAnyH_ready (rs := [6]) (by kernel_rfl) (by simp) ?_
          refine AllReadyH.cons (o := ?oi16) ?hi16 (fun K hK => ?hstep16) AllReadyH.nil
          case hi16 => (simp only [List.getElem?_toArray, List.getElem?_cons_succ, List.getElem?_cons_zero]; try rfl)
          (refine oper_app2 rfl (.tmp 27) (.tmp 29) 23 rfl B0 26 Tryd.underlying23 infoR1 rfl (by decide) v5 (0 + ts.length) ([] ++ ts.flatMap slEl.cells) rfl hin5 (some ⟨bs, 0, none⟩) 1 1 [.slice (some ⟨bz, 0, none⟩) 65 65] rfl rfl (rdq1 m0) (by intro u hu; rw [List.mem_singleton.1 hu]; rfl) (by omega) (by omega) (hB0 ▸ bcur.size) ?_; intro v8 wx hin8 hg8 hat8; rw [Nat.zero_add, List.nil_append] at hin8; obtain ⟨C8, q8, hv8, hq8, hq9, _⟩ := own_shape hin8; subst hv8; have bcur := bcur.grown hg8 bcur.size (fun k hk => by have := (own_lt hin5 hk).1; omega); have T := T.grown hg8 (fun e => by have := hap _ e; omega))
          refine hK.out _ _ ?_ (fun hHeld => ?_)
          · exact bcur
          clear hK K
          (try simp only [Act.put, List.setIfInBounds_toArray, List.set_cons_zero, List.set_cons_succ])
          refine wpAnyH_take (i := 7) (oi := ?oi17) (v := ?v17) ?hi17 (by kernel_rfl) (by kernel_rfl) (by kernel_rfl) ?hQ17 ?hy17 (by assumption) ?hrest17
          case hi17 => (simp only [List.getElem?_toArray, List.getElem?_cons_succ, List.getElem?_cons_zero]; try rfl)
          case hQ17 => exact fun _ _ _ h => h
          case hy17 =>
            refine Or.inl ⟨by rfl, ?_⟩
            (intro wq hSw; (try dsimp only at hSw); go_simp; try with_reducible rfl)
          (try simp only [Act.put, List.setIfInBounds_toArray, List.set_cons_zero, List.set_cons_succ])
          refine wpAnyH_done (by kernel_rfl) ?_ _
          refine NoPanic.normal ?_
          (exact REST.out r bz bs v5 C8 q8 wx (hid ⟨hin8, T, bcur⟩))
        exact AllReadyH.nil
      exact AllReadyH.nil
    refine AllReadyH.cons (o := ?oi18) ?hi18 (fun K hK => ?hstep18) ?hmore18
    case hi18 => (simp only [List.getElem?_toArray, List.getElem?_cons_succ, List.getElem?_cons_zero]; try rfl)
    case hstep18 =>
      go_simp
      ((try have hap := fun k (hk : v5.ownBlock = some k) => (own_lt hin5 hk).2); (try have hnx := (own_lt hmo rfl).2; dsimp only at hnx); (first | refine newvar1_Kd ?_ | refine newvar1_K ?_); intro wx bz hbz hbx nv nf nz; (first | rw [← hbz] | rw [show w4.heap.size = bz from hbz.symm] | rw [show w4.drew.heap.size = bz from hbz.symm]); have hlbz := Nat.le_of_eq hbz.symm; clear hbz; (try simp only [e65]); have T := bz_row nv nf nz; have bcur := below_step bcur hbx; (try have hmo := own_below hmo hbx); (try have hin5 := own_below hin5 hbx); clear nv nf)
      refine hK.out _ _ ?_ (fun hHeld => ?_)
      · exact bcur
      clear hK K
      (try simp only [Act.put, List.setIfInBounds_toArray, List.set_cons_zero, List.set_cons_succ])
      refine wpAnyH_ready (rs := [0, 5]) (by kernel_rfl) (by simp) ?_
      refine AllReadyH.cons (o := ?oi19) ?hi19 (fun K hK => ?hstep19) ?hmore19
      case hi19 => (simp only [List.getElem?_toArray, List.getElem?_cons_zero]; try rfl)
      case hstep19 =>
        go_simp
        (have hs0 : B0 ≤ _ := hB0 ▸ bcur.size; (try have T0 := T.1); (try have M0 := cell_lt m0); (first | refine newrow1_Kd B0 hs0 ?_ | refine newrow1_Kd B0 (Nat.le_of_eq hB0) ?_ | refine newrow1_K B0 hs0 ?_); intro wx r hr hbx hmo; (first | rw [← hr] | rw [show w4.heap.size = r from hr.symm] | rw [show w4.drew.heap.size = r from hr.symm]); have hlr := Nat.le_of_eq hr.symm; clear hr; (try simp only [e65]); have hne := (own_lt hmo rfl).2; dsimp only at hne; have bcur := below_step bcur hbx; (try have T := T.below hbx); (try have m0 := cell_on hbx m0))
        refine hK.out _ _ ?_ (fun hHeld => ?_)
        · exact bcur
        clear hK K
        (try simp only [Act.put, List.setIfInBounds_toArray, List.set_cons_zero, List.set_cons_succ])
        refine wpAnyH_ready (rs := [3, 5]) (by kernel_rfl) (by simp) ?_
        refine AllReadyH.cons (o := ?oi20) ?hi20 (fun K hK => ?hstep20) ?hmore20
        case hi20 => (simp only [List.getElem?_toArray, List.getElem?_cons_succ, List.getElem?_cons_zero]; try rfl)
        case hstep20 =>
          ((try have T1 := T.1); (try have M1 := cell_lt m0); refine oper_app2 rfl (.tmp 24) (.tmp 26) 23 rfl B0 26 Tryd.underlying23 infoR1 rfl (by decide) _ 0 [] rfl hmo tA ts.length tc (ts.flatMap slEl.cells) rfl (slEl.flat_len _) (hE.out _ bcur) (slEl.flat_one _) (by omega) (by omega) (hB0 ▸ bcur.size) ?_; intro v5 wx hin5 hg5 hat5; have hap := fun k (hk : v5.ownBlock = some k) => (show k = r ∨ k = _ from hat5.elim (fun e => .inl (Option.some.inj (hk.symm.trans e))) (fun e => .inr (Option.some.inj (hk.symm.trans e)))); have hap2 := hap; have bcur := bcur.grown hg5 bcur.size (fun k hk => by have := (own_lt hmo hk).1; omega); (try have T := T.grown hg5 (fun e => by have e := Option.some.inj e; dsimp only [Value.ownBlock] at e; omega)); (try have m0 := hg5.cell m0 (fun e => by have e := Option.some.inj e; dsimp only [Value.ownBlock] at e; omega)); clear hat5)
          refine hK.out _ _ ?_ (fun hHeld => ?_)
          · exact bcur
          clear hK K
          (try simp only [Act.put, List.setIfInBounds_toArray, List.set_cons_zero, List.set_cons_succ])
          refine wpAnyH_ready (rs := [5]) (by kernel_rfl) (by simp) ?_
          refine AllReadyH.cons (o := ?oi21) ?hi21 (fun K hK => ?hstep21) AllReadyH.nil
          case hi21 => (simp only [List.getElem?_toArray, List.getElem?_cons_succ, List.getElem?_cons_zero]; try rfl)
          go_simp
          ((try have hap2 := fun k (hk : v5.ownBlock = some k) => (own_lt hin5 hk).2); (try have hny := (own_lt hmo rfl).2; dsimp only at hny); (first | refine newvar1_Kd ?_ | refine newvar1_K ?_); intro wx bs hbs hbx nv nf nz; (first | rw [← hbs] | rw [show w4.heap.size = bs from hbs.symm] | rw [show w4.drew.heap.size = bs from hbs.symm]); have hlbs := Nat.le_of_eq hbs.symm; clear hbs; (try simp only [e65]); have m0 := nv 0 _ rfl; have bcur := below_step bcur hbx; (try have T := T.below hbx); (try have hmo := own_below hmo hbx); (try have hin5 := own_below hin5 hbx); clear nv nf)
          refine hK.out _ _ ?_ (fun hHeld => ?_)
          · exact bcur
          clear hK K
          (try simp only [Act.put, List.setIfInBounds_toArray, List.set_cons_zero, List.set_cons_succ])
          refine wpAnyH_ready (rs := [6]) (by kernel_rfl) (by simp) ?_
          refine AllReadyH.cons (o := ?oi22) ?hi22 (fun K hK => ?hstep22) AllReadyH.nil
          case hi22 => (simp only [List.getElem?_toArray, List.getElem?_cons_succ, List.getElem?_cons_zero]; try rfl)
          (refine oper_app2 rfl (.tmp 27) (.tmp 29) 23 rfl B0 26 Tryd.underlying23 infoR1 rfl (by decide) v5 (0 + ts.length) ([] ++ ts.flatMap slEl.cells) rfl hin5 (some ⟨bs, 0, none⟩) 1 1 [.slice (some ⟨bz, 0, none⟩) 65 65] rfl rfl (rdq1 m0) (by intro u hu; rw [List.mem_singleton.1 hu]; rfl) (by omega) (by omega) (hB0 ▸ bcur.size) ?_; intro v8 wx hin8 hg8 hat8; rw [Nat.zero_add, List.nil_append] at hin8; obtain ⟨C8, q8, hv8, hq8, hq9, _⟩ := own_shape hin8; subst hv8; have bcur := bcur.grown hg8 bcur.size (fun k hk => by have := (own_lt hin5 hk).1; omega); have T := T.grown hg8 (fun e => by have := hap _ e; omega))
          refine hK.out _ _ ?_ (fun hHeld => ?_)
          · exact bcur
          clear hK K
          (try simp only [Act.put, List.setIfInBounds_toArray, List.set_cons_zero, List.set_cons_succ])
          refine wpAnyH_take (i := 7) (oi := ?oi23) (v := ?v23) ?hi23 (by kernel_rfl) (by kernel_rfl) (by kernel_rfl) ?hQ23 ?hy23 (by assumption) ?hrest23
          case hi23 => (simp only [List.getElem?_toArray, List.getElem?_cons_succ, List.getElem?_cons_zero]; try rfl)
          case hQ23 => exact fun _ _ _ h => h
          case hy23 =>
            refine Or.inl ⟨by rfl, ?_⟩
            (intro wq hSw; (try dsimp only at hSw); go_simp; try with_reducible rfl)
          (try simp only [Act.put, List.setIfInBounds_toArray, List.set_cons_zero, List.set_cons_succ])
          refine wpAnyH_done (by kernel_rfl) ?_ _
          refine NoPanic.normal ?_
          (exact REST.out r bz bs v5 C8 q8 wx (hid ⟨hin8, T, bcur⟩))
        refine AllReadyH.cons (o := ?oi24) ?hi24 (fun K hK => ?hstep24) ?hmore24
        case hi24 => (simp only [List.getElem?_toArray, List.getElem?_cons_succ, List.getElem?_cons_zero]; try rfl)
        case hstep24 =>
          go_simp
          ((try have hap2 := fun k (hk : v5.ownBlock = some k) => (own_lt hin5 hk).2); (try have hny := (own_lt hmo rfl).2; dsimp only at hny); (first | refine newvar1_Kd ?_ | refine newvar1_K ?_); intro wx bs hbs hbx nv nf nz; (first | rw [← hbs] | rw [show w4.heap.size = bs from hbs.symm] | rw [show w4.drew.heap.size = bs from hbs.symm]); have hlbs := Nat.le_of_eq hbs.symm; clear hbs; (try simp only [e65]); have m0 := nv 0 _ rfl; have bcur := below_step bcur hbx; (try have T := T.below hbx); (try have hmo := own_below hmo hbx); (try have hin5 := own_below hin5 hbx); clear nv nf)
          refine hK.out _ _ ?_ (fun hHeld => ?_)
          · exact bcur
          clear hK K
          (try simp only [Act.put, List.setIfInBounds_toArray, List.set_cons_zero, List.set_cons_succ])
          refine wpAnyH_ready (rs := [3]) (by kernel_rfl) (by simp) ?_
          refine AllReadyH.cons (o := ?oi25) ?hi25 (fun K hK => ?hstep25) AllReadyH.nil
          case hi25 => (simp only [List.getElem?_toArray, List.getElem?_cons_succ, List.getElem?_cons_zero]; try rfl)
          ((try have T1 := T.1); (try have M1 := cell_lt m0); refine oper_app2 rfl (.tmp 24) (.tmp 26) 23 rfl B0 26 Tryd.underlying23 infoR1 rfl (by decide) _ 0 [] rfl hmo tA ts.length tc (ts.flatMap slEl.cells) rfl (slEl.flat_len _) (hE.out _ bcur) (slEl.flat_one _) (by omega) (by omega) (hB0 ▸ bcur.size) ?_; intro v5 wx hin5 hg5 hat5; have hap := fun k (hk : v5.ownBlock = some k) => (show k = r ∨ k = _ from hat5.elim (fun e => .inl (Option.some.inj (hk.symm.trans e))) (fun e => .inr (Option.some.inj (hk.symm.trans e)))); have hap2 := hap; have bcur := bcur.grown hg5 bcur.size (fun k hk => by have := (own_lt hmo hk).1; omega); (try have T := T.grown hg5 (fun e => by have e := Option.some.inj e; dsimp only [Value.ownBlock] at e; omega)); (try have m0 := hg5.cell m0 (fun e => by have e := Option.some.inj e; dsimp only [Value.ownBlock] at e; omega)); clear hat5)
          refine hK.out _ _ ?_ (fun hHeld => ?_)
          · exact bcur
          clear hK K
          (try simp only [Act.put, List.setIfInBounds_toArray, List.set_cons_zero, List.set_cons_succ])
          refine wpAnyH_ready (rs := [6]) (by kernel_rfl) (by simp) ?_
          refine AllReadyH.cons (o := ?oi26) ?hi26 (fun K hK => ?hstep26) AllReadyH.nil
          case hi26 => (simp only [List.getElem?_toArray, List.getElem?_cons_succ, List.getElem?_cons_zero]; try rfl)
          (refine oper_app2 rfl (.tmp 27) (.tmp 29) 23 rfl B0 26 Tryd.underlying23 infoR1 rfl (by decide) v5 (0 + ts.length) ([] ++ ts.flatMap slEl.cells) rfl hin5 (some ⟨bs, 0, none⟩) 1 1 [.slice (some ⟨bz, 0, none⟩) 65 65] rfl rfl (rdq1 m0) (by intro u hu; rw [List.mem_singleton.1 hu]; rfl) (by omega) (by omega) (hB0 ▸ bcur.size) ?_; intro v8 wx hin8 hg8 hat8; rw [Nat.zero_add, List.nil_append] at hin8; obtain ⟨C8, q8, hv8, hq8, hq9, _⟩ := own_shape hin8; subst hv8; have bcur := bcur.grown hg8 bcur.size (fun k hk => by have := (own_lt hin5 hk).1; omega); have T := T.grown hg8 (fun e => by have := hap _ e; omega))
          refine hK.out _ _ ?_ (fun hHeld => ?_)
          · exact bcur
          clear hK K
          (try simp only [Act.put, List.setIfInBounds_toArray, List.set_cons_zero, List.set_cons_succ])
          refine wpAnyH_take (i := 7) (oi := ?oi27) (v := ?v27) ?hi27 (by kernel_rfl) (by kernel_rfl) (by kernel_rfl) ?hQ27 ?hy27 (by assumption) ?hrest27
          case hi27 => (simp only [List.getElem?_toArray, List.getElem?_cons_succ, List.getElem?_cons_zero]; try rfl)
          case hQ27 => exact fun _ _ _ h => h
          case hy27 =>
            refine Or.inl ⟨by rfl, ?_⟩
            (intro wq hSw; (try dsimp only at hSw); go_simp; try with_reducible rfl)
          (try simp only [Act.put, List.setIfInBounds_toArray, List.set_cons_zero, List.set_cons_succ])
          refine wpAnyH_done (by kernel_rfl) ?_ _
          refine NoPanic.normal ?_
          (exact REST.out r bz bs v5 C8 q8 wx (hid ⟨hin8, T, bcur⟩))
        exact AllReadyH.nil
      refine AllReadyH.cons (o := ?oi28) ?hi28 (fun K hK => ?hstep28) ?hmore28
      case hi28 => (simp only [List.getElem?_toArray, List.getElem?_cons_succ, List.getElem?_cons_zero]; try rfl)
      case hstep28 =>
        go_simp
        ((try have hap2 := fun k (hk : v5.ownBlock = some k) => (own_lt hin5 hk).2); (try have hny := (own_lt hmo rfl).2; dsimp only at hny); (first | refine newvar1_Kd ?_ | refine newvar1_K ?_); intro wx bs hbs hbx nv nf nz; (first | rw [← hbs] | rw [show w4.heap.size = bs from hbs.symm] | rw [show w4.drew.heap.size = bs from hbs.symm]); have hlbs := Nat.le_of_eq hbs.symm; clear hbs; (try simp only [e65]); have m0 := nv 0 _ rfl; have bcur := below_step bcur hbx; (try have T := T.below hbx); (try have hmo := own_below hmo hbx); (try have hin5 := own_below hin5 hbx); clear nv nf)
        refine hK.out _ _ ?_ (fun hHeld => ?_)
        · exact bcur
        clear hK K
        (try simp only [Act.put, List.setIfInBounds_toArray, List.set_cons_zero, List.set_cons_succ])
        refine wpAnyH_ready (rs := [0]) (by kernel_rfl) (by simp) ?_
        refine AllReadyH.cons (o := ?oi29) ?hi29 (fun K hK => ?hstep29) AllReadyH.nil
        case hi29 => (simp only [List.getElem?_toArray, List.getElem?_cons_zero]; try rfl)
        go_simp
        (have hs0 : B0 ≤ _ := hB0 ▸ bcur.size; (try have T0 := T.1); (try have M0 := cell_lt m0); (first | refine newrow1_Kd B0 hs0 ?_ | refine newrow1_Kd B0 (Nat.le_of_eq hB0) ?_ | refine newrow1_K B0 hs0 ?_); intro wx r hr hbx hmo; (first | rw [← hr] | rw [show w4.heap.size = r from hr.symm] | rw [show w4.drew.heap.size = r from hr.symm]); have hlr := Nat.le_of_eq hr.symm; clear hr; (try simp only [e65]); have hne := (own_lt hmo rfl).2; dsimp only at hne; have bcur := below_step bcur hbx; (try have T := T.below hbx); (try have m0 := cell_on hbx m0))
        refine hK.out _ _ ?_ (fun hHeld => ?_)
        · exact bcur
        clear hK K
        (try simp only [Act.put, List.setIfInBounds_toArray, List.set_cons_zero, List.set_cons_succ])
        refine wpAnyH_ready (rs := [3]) (by kernel_rfl) (by simp) ?_
        refine AllReadyH.cons (o := ?oi30) ?hi30 (fun K hK => ?hstep30) AllReadyH.nil
        case hi30 => (simp only [List.getElem?_toArray, List.getElem?_cons_succ, List.getElem?_cons_zero]; try rfl)
        ((try have T1 := T.1); (try have M1 := cell_lt m0); refine oper_app2 rfl (.tmp 24) (.tmp 26) 23 rfl B0 26 Tryd.underlying23 infoR1 rfl (by decide) _ 0 [] rfl hmo tA ts.length tc (ts.flatMap slEl.cells) rfl (slEl.flat_len _) (hE.out _ bcur) (slEl.flat_one _) (by omega) (by omega) (hB0 ▸ bcur.size) ?_; intro v5 wx hin5 hg5 hat5; have hap := fun k (hk : v5.ownBlock = some k) => (show k = r ∨ k = _ from hat5.elim (fun e => .inl (Option.some.inj (hk.symm.trans e))) (fun e => .inr (Option.some.inj (hk.symm.trans e)))); have hap2 := hap; have bcur := bcur.grown hg5 bcur.size (fun k hk => by have := (own_lt hmo hk).1; omega); (try have T := T.grown hg5 (fun e => by have e := Option.some.inj e; dsimp only [Value.ownBlock] at e; omega)); (try have m0 := hg5.cell m0 (fun e => by have e := Option.some.inj e; dsimp only [Value.ownBlock] at e; omega)); clear hat5)
        refine hK.out _ _ ?_ (fun hHeld => ?_)
        · exact bcur
        clear hK K
        (try simp only [Act.put, List.setIfInBounds_toArray, List.set_cons_zero, List.set_cons_succ])
        refine wpAnyH_ready (rs := [6]) (by kernel_rfl) (by simp) ?_
        refine AllReadyH.cons (o := ?oi31) ?hi31 (fun K hK => ?hstep31) AllReadyH.nil
        case hi31 => (simp only [List.getElem?_toArray, List.getElem?_cons_succ, List.getElem?_cons_zero]; try rfl)
        (refine oper_app2 rfl (.tmp 27) (.tmp 29) 23 rfl B0 26 Tryd.underlying23 infoR1 rfl (by decide) v5 (0 + ts.length) ([] ++ ts.flatMap slEl.cells) rfl hin5 (some ⟨bs, 0, none⟩) 1 1 [.slice (some ⟨bz, 0, none⟩) 65 65] rfl rfl (rdq1 m0) (by intro u hu; rw [List.mem_singleton.1 hu]; rfl) (by omega) (by omega) (hB0 ▸ bcur.size) ?_; intro v8 wx hin8 hg8 hat8; rw [Nat.zero_add, List.nil_append] at hin8; obtain ⟨C8, q8, hv8, hq8, hq9, _⟩ := own_shape hin8; subst hv8; have bcur := bcur.grown hg8 bcur.size (fun k hk => by have := (own_lt hin5 hk).1; omega); have T := T.grown hg8 (fun e => by have := hap _ e; omega))
        refine hK.out _ _ ?_ (fun hHeld => ?_)
        · exact bcur
        clear hK K
        (try simp only [Act.put, List.setIfInBounds_toArray, List.set_cons_zero, List.set_cons_succ])
        refine wpAnyH_take (i := 7) (oi := ?oi32) (v := ?v32) ?hi32 (by kernel_rfl) (by kernel_rfl) (by kernel_rfl) ?hQ32 ?hy32 (by assumption) ?hrest32
        case hi32 => (simp only [List.getElem?_toArray, List.getElem?_cons_succ, List.getElem?_cons_zero]; try rfl)
        case hQ32 => exact fun _ _ _ h => h
        case hy32 =>
          refine Or.inl ⟨by rfl, ?_⟩
          (intro wq hSw; (try dsimp only at hSw); go_simp; try with_reducible rfl)
        (try simp only [Act.put, List.setIfInBounds_toArray, List.set_cons_zero, List.set_cons_succ])
        refine wpAnyH_done (by kernel_rfl) ?_ _
        refine NoPanic.normal ?_
        (exact REST.out r bz bs v5 C8 q8 wx (hid ⟨hin8, T, bcur⟩))
      exact AllReadyH.nil
    exact AllReadyH.nil
  intro r bz bs v5 C q w5 HF
  obtain ⟨own5, T5, hb⟩ := HF.out
  clear HF
  have KT := hid (fun W (hW : Below w5.heap.size w5 W) => texts_call ((h1.out.below hb).below hW) (own_below own5 hW) (T5.below hW))
  have KW := hid (fun W (hW : Below w5.heap.size w5 W) (x : Co) (hx : CoRd W x) (q : Bool) (hq : rightC x.data = q) => with_any ((R0.out.below hb).below hW) ((h1.out.below hb).below hW) hx his.out h40.out hq)
  replace R0 := hid (R0.out.below hb)
  replace b0 := below_step b0 hb
  clear hb own5 T5 h1 his h40 htm ht1
  go_upto_region 7 with (at_make; refine wpList_mkn rfl (.const (.int .i64 17)) (.const (.int .i64 17)) 42 rfl w5.heap.size 43 Tryd.underlying42 info_ty 17 rfl rfl rfl rfl (by omega) (by omega) (Nat.le_refl _) ?_; intro wm ownm hgm)
  have bT := below_of_grown hgm
  rw [tyk_made] at ownm
  obtain ⟨kT, hkT⟩ : ∃ k, k = w5.heap.size := ⟨_, rfl⟩
  rw [← hkT] at ownm ⊢
  have hkT2 := Nat.le_of_eq hkT.symm
  obtain ⟨B5, hB5⟩ : ∃ B, B = kT := ⟨_, rfl⟩
  replace hkT := hid hkT
  have ownm2 : wm.ownsRow B5 43 1 (.slice (some ⟨kT, 0, none⟩) 17 17) 17 (tyk 0) := by rw [hB5]; exact ownm
  clear ownm hgm hB5
  go_wp2_with fail
  go_loopw [7] (fun i W => ∃ k : Nat, k ≤ 17 ∧ i = .int .i64 k ∧ W.ownsRow B5 43 1 (.slice (some ⟨kT, 0, none⟩) 17 17) 17 (tyk k) ∧ Below w5.heap.size w5 W) (fun i _ => 17 - (RowKit.intOf i).toNat)
  case atStart => exact ⟨0, by omega, rfl, ownm2, bT⟩
  case round =>
    obtain ⟨k, hk, rfl, ow, hb⟩ := hrel
    clear ownm2 bT
    by_cases hlt : k < 17
    · have i0 : (0 : Int) ≤ k := by omega
      have i1 : (k : Int) < 17 := by omega
      obtain ⟨c0, f0⟩ : wr.cell? ⟨kT, k, none⟩ = some (.int .i64 0) ∧ wr.frozen? ⟨kT, k, none⟩ = false := ⟨by
        obtain ⟨_, he, hc⟩ := own_rd ow k _ (tyk_at k hlt)
        cases he
        rw [add_none] at hc
        have e : (0 : Nat) + k = k := Nat.zero_add k
        rwa [e] at hc, ow.frozenAt k⟩
      have s1 := (ow.stored k (.int .i64 1)).1
      rw [tyk_set k hlt] at s1
      have b2 := hb.setCell (p := ⟨kT, k, none⟩) hkT2 (.int .i64 1)
      clear ow
      go_wp2_with fail
      go_roundw
      case rel => exact ⟨k + 1, by omega, by go_num, s1, b2⟩
      case measure => simp [RowKit.intOf]; omega
    · obtain rfl : k = 17 := by omega
      have T1 := own_rd ow
      obtain ⟨wc, hwc⟩ : ∃ x : World, x = wr := ⟨_, rfl⟩
      rw [← hwc] at T1 hb ⊢
      clear ow hwc
      have sl16 := fun W => run_slice_to (P := Tryd.prog) Tryd.underlying42 info_ty (some ⟨kT, 0, none⟩) 17 17 16 .i64 16 rfl (by omega) W
      have sl1 := fun W => run_slice_to (P := Tryd.prog) Tryd.underlying42 info_ty (some ⟨kT, 0, none⟩) 17 17 1 .i64 1 rfl (by omega) W
      have hz : kT < wc.heap.size := by
        obtain ⟨_, he, hc⟩ := T1 0 (.int .i64 1) rfl
        cases he
        exact cell_lt hc
      have Tq := hid (fun (W : World) (hW : Below wc.heap.size wc W) => Rd.below T1 hW)
      clear T1
      have bc := hb
      have rc0 := (R0.out.below bc).2 0 _ rfl
      have C0 := rc0.1
      clear rc0
      have bw := Below.refl wc.heap.size wc
      have K : Calls Tryd.prog 23 #[.agg #[.string ⟨#[]⟩, .slice (some ⟨kT, 0, none⟩) 16 17, .int .i64 0, .int .i64 16, .slice none 0 0], .pointer (some ⟨kM, 0, none⟩)] wc fun e w' => e = .returned (.bool true) ∧ Below (wc).heap.size (wc) w' := KW.out _ bc ⟨[], some ⟨kT, 0, none⟩, 17, List.replicate 16 1, 0, 16, none, 0, []⟩ (co_rd (ty_els (Tq.out _ bw) (by decide)) (Els.nil _ _ _) (by decide) (by decide)) true (show rightC ([], List.replicate 16 1, 0, 16, []) = true from by decide +kernel)
      replace K := hid K
      go_wp2_with fail
      refine K.out.mono ?_
      rintro e wx ⟨rfl, hb2⟩
      clear K
      replace bc := below_step bc hb2
      replace bw := below_step bw hb2
      clear hb2
      have K2 := hid (KT.out _ bc)
      clear C0
      have C0 := ((R0.out.below bc).2 0 _ rfl).1
      go_wp2_with fail
      refine K2.out.mono ?_
      rintro e wx ⟨rfl, hb2⟩
      clear K2 C0
      replace bc := below_step bc hb2
      replace bw := below_step bw hb2
      clear hb2
      have K : Calls Tryd.prog 23 #[.agg #[.string ⟨#[]⟩, .slice (some ⟨kT, 0, none⟩) 17 17, .int .i64 0, .int .i64 17, .slice none 0 0], .pointer (some ⟨kM, 0, none⟩)] wx fun e w' => e = .returned (.bool false) ∧ Below wx.heap.size wx w' := KW.out _ bc ⟨[], some ⟨kT, 0, none⟩, 17, List.replicate 17 1, 0, 17, none, 0, []⟩ (co_rd (ty_els (Tq.out _ bw) (by decide)) (Els.nil _ _ _) (by decide) (by decide)) false (show rightC ([], List.replicate 17 1, 0, 17, []) = false from by decide +kernel)
      replace K := hid K
      go_wp2_with fail
      refine K.out.mono ?_
      rintro e wx ⟨rfl, hb2⟩
      clear K
      replace bc := below_step bc hb2
      replace bw := below_step bw hb2
      clear hb2
      have K : Calls Tryd.prog 23 #[.agg #[.string ⟨#[]⟩, .slice (some ⟨kT, 0, none⟩) 1 17, .int .i64 0, .int .i64 0, .slice none 0 0], .pointer (some ⟨kM, 0, none⟩)] wx fun e w' => e = .returned (.bool false) ∧ Below wx.heap.size wx w' := KW.out _ bc ⟨[], some ⟨kT, 0, none⟩, 17, List.replicate 1 1, 0, 0, none, 0, []⟩ (co_rd (ty_els (Tq.out _ bw) (by decide)) (Els.nil _ _ _) (by decide) (by decide)) false (show rightC ([], List.replicate 1 1, 0, 0, []) = false from by decide +kernel)
      replace K := hid K
      go_wp2_with fail
      refine K.out.mono ?_
      rintro e wx ⟨rfl, hb2⟩
      clear K
      replace bc := below_step bc hb2
      replace bw := below_step bw hb2
      clear hb2
      have K : Calls Tryd.prog 23 #[.agg #[.string ⟨#[]⟩, .slice none 0 0, .int .i64 0, .int .i64 257, .slice none 0 0], .pointer (some ⟨kM, 0, none⟩)] wx fun e w' => e = .returned (.bool false) ∧ Below wx.heap.size wx w' := KW.out _ bc ⟨[], none, 0, [], 0, 257, none, 0, []⟩ (co_rd (Els.nil _ _ _) (Els.nil _ _ _) (by decide) (by decide)) false (show rightC ([], [], 0, 257, []) = false from by decide +kernel)
      replace K := hid K
      go_wp2_with fail
      refine K.out.mono ?_
      rintro e wx ⟨rfl, hb2⟩
      clear K
      replace bc := below_step bc hb2
      replace bw := below_step bw hb2
      clear hb2
      have K : Calls Tryd.prog 23 #[.agg #[.string ⟨#[97, 98, 99, 100, 101, 102, 103, 104, 105, 106, 107, 108, 109, 110, 111, 112, 113]⟩, .slice none 0 0, .int .i64 0, .int .i64 0, .slice none 0 0], .pointer (some ⟨kM, 0, none⟩)] wx fun e w' => e = .returned (.bool false) ∧ Below wx.heap.size wx w' := KW.out _ bc ⟨[97, 98, 99, 100, 101, 102, 103, 104, 105, 106, 107, 108, 109, 110, 111, 112, 113], none, 0, [], 0, 0, none, 0, []⟩ (co_rd (Els.nil _ _ _) (Els.nil _ _ _) (by decide) (by decide)) false (show rightC ([97, 98, 99, 100, 101, 102, 103, 104, 105, 106, 107, 108, 109, 110, 111, 112, 113], [], 0, 0, []) = false from by decide +kernel)
      replace K := hid K
      go_wp2_with fail
      refine K.out.mono ?_
      rintro e wx ⟨rfl, hb2⟩
      clear K
      replace bc := below_step bc hb2
      replace bw := below_step bw hb2
      clear hb2
      have K : Calls Tryd.prog 23 #[.agg #[.string ⟨#[]⟩, .slice none 0 0, .int .i64 4, .int .i64 0, .slice none 0 0], .pointer (some ⟨kM, 0, none⟩)] wx fun e w' => e = .returned (.bool false) ∧ Below wx.heap.size wx w' := KW.out _ bc ⟨[], none, 0, [], 4, 0, none, 0, []⟩ (co_rd (Els.nil _ _ _) (Els.nil _ _ _) (by decide) (by decide)) false (show rightC ([], [], 4, 0, []) = false from by decide +kernel)
      replace K := hid K
      go_wp2_with fail
      refine K.out.mono ?_
      rintro e wx ⟨rfl, hb2⟩
      clear K
      replace bc := below_step bc hb2
      replace bw := below_step bw hb2
      clear hb2
      have bx := below_alloc wx (.cells #[.int .i64 0, .int .i64 0] 50)
      have RX := Row.new wx [.int .i64 0, .int .i64 0] 50
      change Row (wx.alloc (.cells #[.int .i64 0, .int .i64 0] 50)) _ _ at RX
      have K : Calls Tryd.prog 23 #[.agg #[.string ⟨#[]⟩, .slice none 0 0, .int .i64 0, .int .i64 0, .slice (some ⟨wx.heap.size, 0, none⟩) 1 1], .pointer (some ⟨kM, 0, none⟩)] (wx.alloc (.cells #[.int .i64 0, .int .i64 0] 50)) fun e w' => e = .returned (.bool false) ∧ Below (wx.alloc (.cells #[.int .i64 0, .int .i64 0] 50)).heap.size (wx.alloc (.cells #[.int .i64 0, .int .i64 0] 50)) w' := KW.out _ (below_step bc bx) ⟨[], none, 0, [], 0, 0, some ⟨wx.heap.size, 0, none⟩, 1, [(0, 0)]⟩ (co_rd (Els.nil _ _ _) ⟨fun j u hj => ⟨_, rfl, by have := (RX.2 j u (by simpa [inEl] using hj)).1; have e : (0 : Nat) + j = j := Nat.zero_add j; rw [add_none, e]; exact this⟩, fun a _ p hp => by cases hp⟩ (by decide) (by decide)) false (show rightC ([], [], 0, 0, [(0, 0)]) = false from by decide +kernel)
      replace K := hid K
      replace bc := below_step bc bx
      replace bw := below_step bw bx
      clear bx RX
      go_wp2_with fail
      refine K.out.mono ?_
      rintro e wx ⟨rfl, hb2⟩
      clear K
      replace bc := below_step bc hb2
      replace bw := below_step bw hb2
      clear hb2
      have bx := below_alloc wx (.cells #[.int .i64 0] 43)
      have RX := Row.new wx [.int .i64 0] 43
      change Row (wx.alloc (.cells #[.int .i64 0] 43)) _ _ at RX
      have K : Calls Tryd.prog 23 #[.agg #[.string ⟨#[]⟩, .slice (some ⟨wx.heap.size, 0, none⟩) 1 1, .int .i64 0, .int .i64 1, .slice none 0 0], .pointer (some ⟨kM, 0, none⟩)] (wx.alloc (.cells #[.int .i64 0] 43)) fun e w' => e = .returned (.bool false) ∧ Below (wx.alloc (.cells #[.int .i64 0] 43)).heap.size (wx.alloc (.cells #[.int .i64 0] 43)) w' := KW.out _ (below_step bc bx) ⟨[], some ⟨wx.heap.size, 0, none⟩, 1, [0], 0, 1, none, 0, []⟩ (co_rd ⟨fun j u hj => ⟨_, rfl, by have := (RX.2 j u (by simpa [tyEl] using hj)).1; have e : (0 : Nat) + j = j := Nat.zero_add j; rw [add_none, e]; exact this⟩, fun a _ p hp => by cases hp⟩ (Els.nil _ _ _) (by decide) (by decide)) false (show rightC ([], [0], 0, 1, []) = false from by decide +kernel)
      replace K := hid K
      replace bc := below_step bc bx
      replace bw := below_step bw bx
      clear bx RX
      go_wp2_with fail
      refine K.out.mono ?_
      rintro e wx ⟨rfl, hb2⟩
      clear K
      replace bc := below_step bc hb2
      replace bw := below_step bw hb2
      clear hb2
      go_wp2_with (at_make; refine wpList_mkw (by first | rfl | kernel_rfl) (.const (.int .i64 16385)) (.const (.int .i64 16385)) 44 rfl wx.heap.size 50 Tryd.underlying44 info_ins 16385 rfl rfl rfl rfl (by omega) (by omega) (Nat.le_refl _) ?_; intro wz ownz hgz; have bz2 := below_of_grown hgz; rw [ins_made] at ownz)
      obtain ⟨lz, hlen, RZ⟩ := ins_ready (own_rd ownz)
      replace bc := below_step bc bz2
      have K : Calls Tryd.prog 23 #[.agg #[.string ⟨#[]⟩, .slice none 0 0, .int .i64 0, .int .i64 0, .slice (some ⟨wx.heap.size, 0, none⟩) 16385 16385], .pointer (some ⟨kM, 0, none⟩)] wz fun e w' => e = .returned (.bool false) ∧ Below wz.heap.size wz w' := by
        have K := KW.out wz bc ⟨[], none, 0, [], 0, 0, some ⟨wx.heap.size, 0, none⟩, 16385, lz⟩ (co_rd (Els.nil _ _ _) RZ (by decide) (by rw [hlen]; decide)) false (rc_i lz hlen)
        dsimp only at K
        rw [hlen] at K
        exact K
      replace K := hid K
      refine K.out.mono ?_
      rintro e wx ⟨rfl, hb2⟩
      clear K
      replace bc := below_step bc hb2
      have bend := below_step b0 bc
      go_wp2_with fail
      go_ret
      exact ⟨rfl, bend⟩
end Go.Proofs.YtnkocbdbfkhgmaaDoor
