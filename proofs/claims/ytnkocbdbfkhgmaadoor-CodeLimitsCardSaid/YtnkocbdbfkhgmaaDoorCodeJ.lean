import Derived.Test.YtnkocbdbfkhgmaaDoorCodeI
/-! code: so many functions as the next number says -/
namespace Go.Proofs.YtnkocbdbfkhgmaaDoor
open Go.RowKit Go.Cov
/-- a function's parts lie apart from v's block -/
def CoApart (v : Value) (x : Co) : Prop := ∀ k, ((Value.slice x.pA x.ps.length x.pc).ownBlock = some k ∨ (Value.slice x.iA x.is.length x.ic).ownBlock = some k) → v.ownBlock ≠ some k
theorem CoOwn.mono {w : World} {b0 b1 : Nat} {x : Co} (h : CoOwn w b1 x) (hb : b0 ≤ b1) : CoOwn w b0 x := ⟨h.p.mono hb, h.i.mono hb⟩
theorem CoOwn.below {w w' : World} {b0 : Nat} {x : Co} (h : CoOwn w b0 x) (hb : Below w.heap.size w w') : CoOwn w' b0 x := ⟨h.p.below hb, h.i.below hb⟩
theorem CoOwn.gro {w w' : World} {b0 b : Nat} {x : Co} (h : CoOwn w b0 x) (hG : Gro b b w w') (hb : b < b0) : CoOwn w' b0 x := ⟨keep_elsc (fun _ => rfl) (Nat.le_refl _) hb hG h.p, keep_elsc (fun _ => rfl) (Nat.le_refl _) hb hG h.i⟩
theorem CoApart.new {w : World} {b0 : Nat} {x : Co} {v : Value} (h : CoOwn w b0 x) (hv : ∀ k, v.ownBlock = some k → k < b0) : CoApart v x := fun k hk he => by
  have h1 := hv k he
  rcases hk with hk | hk
  · have := (h.p.lt hk).1; omega
  · have := (h.i.lt hk).1; omega
theorem CoOwn.both {w w' : World} {b0 : Nat} {x : Co} {v : Value} (h : CoOwn w b0 x ∧ CoApart v x) (hb : Below w.heap.size w w') : CoOwn w' b0 x ∧ CoApart v x := ⟨h.1.below hb, h.2⟩
theorem own_apart' {w w' : World} {base : Nat} {e : TypeId} {size n : Nat} {v : Value} {xs : List Value} {row : Option Nat} (h : w.ownsRow base e size v n xs) (hg : w.grownBy w' row) (hne : ∀ k, v.ownBlock = some k → some k ≠ row) : w'.ownsRow base e size v n xs := by
  have hl := fun k (hk : v.ownBlock = some k) => own_lt h hk
  obtain ⟨h0, h⟩ := h
  refine ⟨h0, ?_⟩
  rcases h with h | ⟨g, cap, cur, rfl, h1, h2, h3⟩
  · exact .inl h
  · exact .inr ⟨g, cap, cur, rfl, h1, (hg.block g (hl g rfl).2 (hne g rfl)).trans h2, h3⟩
theorem CoOwn.appd {w w' : World} {b0 : Nat} {x : Co} {v v' : Value} (h : CoOwn w b0 x ∧ CoApart v x) (hg : w.grownBy w' v.ownBlock) (hat : v'.ownBlock = v.ownBlock ∨ v'.ownBlock = some w.heap.size) : CoOwn w' b0 x ∧ CoApart v' x := by
  refine ⟨⟨⟨own_apart' h.1.p.1 hg (fun k hk he => h.2 k (.inl hk) he.symm), fun a ha p hp => by cases hp⟩, ⟨own_apart' h.1.i.1 hg (fun k hk he => h.2 k (.inr hk) he.symm), fun a ha p hp => by cases hp⟩⟩, fun k hk he => ?_⟩
  rcases hat with e | e
  · rw [e] at he; exact h.2 k hk he
  · rw [e] at he; injection he with he
    rcases hk with hk | hk
    · have := (h.1.p.lt hk).2; omega
    · have := (h.1.i.lt hk).2; omega

theorem info_co : (Tryd.prog.info? 46).map (fun i => (i.zero, i.size, i.bytes)) = some (some (.agg #[.string ⟨#[]⟩, .slice none 0 0, .int .i64 0, .int .i64 0, .slice none 0 0]), 5, 80) := by kernel_rfl
set_option maxRecDepth 100000 in
set_option maxHeartbeats 3200000 in
theorem list_co {w : World} {b c : Nat} {A : Option Addr} {l : List UInt8} {s : Int × Int} (h : Rr w b A c l s)  :
    Calls Tryd.prog 30 #[.pointer (some ⟨b, 0, none⟩), .int .i64 64, .func (.func 31) #[.pointer (some ⟨b, 0, none⟩)] #[]] w fun e w' => ∃ (v : Value) (xs : List Co), e = .returned v ∧ xs.map Co.data = (cnt 64 111 getC l s).1 ∧ xs.length ≤ 64 ∧ OwnEls coEl w' w.heap.size 46 v xs ∧ (∀ x ∈ xs, CoOwn w' w.heap.size x ∧ CoApart v x) ∧ Rr w' b A c l (cnt 64 111 getC l s).2 ∧ Gro b b w w' := by
  have hlt := h.lt
  have hbw := hid h.row.1
  have K := hid (cnum_any h)
  unfold cnt
  obtain ⟨e5, s5, he5⟩ : ∃ e s1, nx numR 0 l s = (e, s1) := ⟨_, _, rfl⟩
  rw [he5] at K
  rw [he5]
  replace he5 := hid he5
  dsimp only at K ⊢
  obtain ⟨sc, hsc⟩ : ∃ sc, chk 64 111 (e5, s5) = sc := ⟨_, rfl⟩
  have hck : sc.2 = 0 → e5.toNat ≤ 64 := by
    rw [← hsc]
    unfold chk
    split
    · intro hh; exact absurd hh (show ¬ ((111 : Int) = 0) by decide)
    · rename_i hh; intro h0; dsimp only at hh h0; by_cases hx : 64 < e5; exact absurd ⟨h0, .inr hx⟩ hh; omega
  rw [hsc]
  replace hsc := hid hsc
  replace hck := hid hck
  go_enter Tryd.func30, Tryd.ntmps30
  go_wp2_with fail
  refine K.out.mono ?_
  rintro e w1 ⟨rfl, h1, G1⟩
  clear K
  go_upto_region 2 with fail
  go_cut [24] (fun s24 wx => s24 = .bool (decide (s5.2 = 0 ∧ (e5 < 0 ∨ 64 < e5))) ∧ wx = w1)
  case first =>
    obtain ⟨p5, r5⟩ := s5
    have C2 := (h1.row.2 2 _ rfl).1
    by_cases z5 : r5 = 0
    · subst z5
      by_cases n5 : e5 < 0
      · have j5 : decide (e5 < 0) = true := decide_eq_true n5
        go_wp2_with fail
        go_meet
        exact ⟨congrArg Value.bool (decide_eq_true ⟨trivial, .inl n5⟩).symm, rfl⟩
      · have j5 : decide (e5 < 0) = false := decide_eq_false n5
        go_wp2_with fail
        go_meet
        exact ⟨congrArg Value.bool (decide_eq_decide.2 ⟨fun h => ⟨trivial, .inr h⟩, fun h => h.2.resolve_left (by omega)⟩), rfl⟩
    · have y5 : (r5 == 0) = false := by simp [z5]
      go_wp2_with fail
      go_meet
      exact ⟨by simp [z5], rfl⟩
  case rest =>
  obtain ⟨rfl, rfl⟩ := hcut
  go_upto_if 24 with fail
  go_cut [7] (fun s7 wx => s7 = .int .i64 e5 ∧ Rr wx b A c l sc ∧ Gro b b wc wx)
  case first =>
    by_cases hz : s5.2 = 0 ∧ (e5 < 0 ∨ 64 < e5)
    · have hd : decide (s5.2 = 0 ∧ (e5 < 0 ∨ 64 < e5)) = true := decide_eq_true hz
      have F2 := (h1.row.2 2 _ rfl).2
      have C2 := (h1.row.2 2 _ rfl).1
      have hS := h1.set2 111
      have GS := Gro.set b b 2 wc (.int .i64 111)
      go_wp2_with fail
      go_meet
      refine ⟨rfl, ?_, GS⟩
      rw [← hsc.out]
      unfold chk
      rw [if_pos hz]
      exact hS
    · have hd : decide (s5.2 = 0 ∧ (e5 < 0 ∨ 64 < e5)) = false := decide_eq_false hz
      go_wp2_with fail
      go_meet
      refine ⟨rfl, ?_, Gro.refl _ _ _⟩
      rw [← hsc.out]
      unfold chk
      rw [if_neg hz]
      exact h1
  case rest =>
  obtain ⟨w1, hw1⟩ : ∃ w1, w1 = wc := ⟨_, rfl⟩
  obtain ⟨rfl, hc1, hG1⟩ := hcut
  replace G1 := G1.trans hG1
  clear hw1 h1 hG1
  obtain ⟨wl, hwl⟩ : ∃ wl, wl = wc := ⟨_, rfl⟩
  rw [← hwl] at hc1 G1
  go_wp2_with fail
  go_loopw [7, 8] (fun i o W => ∃ (n : Int) (sk : Int × Int) (outs : List Co) (v : Value), i = .int .i64 n ∧ o = v ∧ (outs.length ≤ 64 ∧ (sk.2 = 0 → outs.length + n.toNat ≤ 64)) ∧ getL getC e5.toNat l sc = (outs.map Co.data ++ (getL getC n.toNat l sk).1, (getL getC n.toNat l sk).2) ∧ OwnEls coEl W w.heap.size 46 v outs ∧ (∀ x ∈ outs, CoOwn W w.heap.size x ∧ CoApart v x) ∧ Rr W b A c l sk ∧ Gro b b w W) (fun i _ _ => (RowKit.intOf i).toNat)
  case atStart => exact ⟨e5, sc, [], .slice none 0 0, rfl, rfl, ⟨by simp, by simpa using hck.out⟩, by simp, OwnEls.nil _ _ _ _, (fun x hx => by cases hx), by rw [← hwl]; exact hc1, by rw [← hwl]; exact G1⟩
  case round =>
    clear hwl
    obtain ⟨n, sk, outs, v, rfl, hov, ⟨hl1, hl2⟩, hgl, hE, hP, hrrk, hGk⟩ := hrel
    replace hov := hov.symm
    subst hov
    have C2 := (hrrk.row.2 2 _ rfl).1
    go_upto_region 5 with fail
    go_cut [36] (fun s36 wx => s36 = .bool (decide (0 < n ∧ sk.2 = 0)) ∧ wx = wr)
    case first =>
      by_cases hn : 0 < n
      · have jn : decide (0 < n) = true := decide_eq_true hn
        go_wp2_with fail
        go_meet
        exact ⟨congrArg Value.bool (by by_cases hz : sk.2 = 0 <;> simp [hn, hz]), rfl⟩
      · have jn : decide (0 < n) = false := decide_eq_false hn
        go_wp2_with fail
        go_meet
        exact ⟨congrArg Value.bool (decide_eq_false (fun hh => by omega)).symm, rfl⟩
    case rest =>
    obtain ⟨rfl, rfl⟩ := hcut
    clear C2
    by_cases hgo : 0 < n ∧ sk.2 = 0
    · rw [decide_eq_true hgo]
      obtain ⟨hn, hz⟩ := hgo
      obtain ⟨m, rfl⟩ : ∃ m : Nat, n = (m : Int) + 1 := ⟨(n - 1).toNat, by omega⟩
      have hm16 := hl2 hz
      have hgs : getL getC ((m : Int) + 1).toNat l sk = ((getC l sk).1 :: (getL getC m l (getC l sk).2).1, (getL getC m l (getC l sk).2).2) := by
        rw [show ((m : Int) + 1).toNat = m + 1 by omega]; exact getL_ok getC m l sk hz
      rw [hgs] at hgl
      clear hgs
      obtain ⟨pk, rk⟩ := sk
      have hz : rk = 0 := hz
      subst hz
      have KO := code_any hrrk
      obtain ⟨yd, s2, hy⟩ : ∃ y s2, getC l (pk, 0) = (y, s2) := ⟨_, _, rfl⟩
      rw [hy] at KO hgl
      dsimp only at KO hgl
      have HGL := hid hgl
      clear hgl hy
      replace KO := hid KO
      have zg := hGk.size
      replace hl2 := hid hl2
      go_wp2_with fail
      refine KO.out.mono ?_
      rintro e w3 ⟨y, rfl, hyd, ownY, h3, G3⟩
      clear KO
      have hE3 : OwnEls coEl w3 w.heap.size 46 v outs := ⟨G3.own hE.1 hbw.out, fun a ha p hp => by cases hp⟩
      have hP3 : ∀ x ∈ outs ++ [y], CoOwn w3 w.heap.size x ∧ CoApart v x := fun x hx => by
        rcases List.mem_append.1 hx with hx | hx
        · exact ⟨(hP x hx).1.gro G3 hbw.out, (hP x hx).2⟩
        · rw [List.mem_singleton.1 hx]; exact ⟨ownY.mono zg, CoApart.new ownY (fun k hk => (own_lt hE.1 hk).2)⟩
      have b4 := below_alloc w3 (.cells #[.string (str y.nm), .slice y.pA y.ps.length y.pc, .int .i64 y.res, .int .i64 y.slots, .slice y.iA y.is.length y.ic] 46)
      have hE4 := hE3.below b4
      have hP4 := fun x hx => CoOwn.both (hP3 x hx) b4
      have rB := rd_box w3 #[.string (str y.nm), .slice y.pA y.ps.length y.pc, .int .i64 y.res, .int .i64 y.slots, .slice y.iA y.is.length y.ic] 46
      have h4 := h3.below b4
      have G4 := (hGk.trans G3).trans (Gro.of_below b4)
      have zB := Nat.le_trans (Nat.le_trans zg G3.size) b4.size
      replace h4 := hid h4
      replace G4 := hid G4
      clear b4 hE3 h3 G3 hE hrrk hGk hP hP3 ownY
      go_wp2_with (at_builtin; refine wpList_app rfl (.tmp 39) (.tmp 42) 22 rfl w.heap.size 46 Tryd.underlying22 info_co rfl (by decide) v outs.length (outs.flatMap coEl.cells) rfl hE4.1 (some ⟨w3.heap.size, 0, none⟩) 1 1 [.string (str y.nm), .slice y.pA y.ps.length y.pc, .int .i64 y.res, .int .i64 y.slots, .slice y.iA y.is.length y.ic] rfl rfl rB (by intro u hu; simp at hu; rcases hu with rfl | rfl | rfl | rfl | rfl <;> rfl) (by omega) (by omega) zB ?_; intro v7 w7 own7 hg7 hat7)
      have h7 := h4.out.grown hg7 (fun e => by have := (own_lt hE4.1 e).1; have := hbw.out; omega) (fun hl ad ha e => by have h1 := (own_lt hE4.1 e).1; have h2 := hlt hl ad ha; omega)
      have G7 := G4.out.grown hg7 (fun k hk => (own_lt hE4.1 hk).1)
      have E7 : OwnEls coEl w7 w.heap.size 46 v7 (outs ++ [y]) := ⟨by rw [List.length_append, List.flatMap_append, show List.flatMap coEl.cells [y] = [.string (str y.nm), .slice y.pA y.ps.length y.pc, .int .i64 y.res, .int .i64 y.slots, .slice y.iA y.is.length y.ic] from rfl]; exact own7, fun a ha p hp => by cases hp⟩
      have P7 : ∀ x ∈ outs ++ [y], CoOwn w7 w.heap.size x ∧ CoApart v7 x := fun x hx => CoOwn.appd (hP4 x hx) hg7 hat7
      have e6 : IntKind.i64.wrap ((m : Int) + 1 - 1) = m := by rw [show (m : Int) + 1 - 1 = m by omega]; exact wrap_of _ (by omega) (by omega)
      clear own7 hg7 hat7 hE4 rB zB hP4
      go_roundw
      case rel => exact ⟨m, s2, outs ++ [y], v7, (by first | rfl | (congr 1)), rfl, ⟨by rw [List.length_append]; simp; omega, fun _ => by rw [List.length_append]; simp; omega⟩, by rw [HGL.out, List.map_append, List.append_assoc, Int.toNat_natCast, ← hyd]; rfl, E7, P7, h7, G7⟩
      case measure => simp [RowKit.intOf]
    · rw [decide_eq_false hgo]
      have HEX : Hid (getL getC e5.toNat l sc = (outs.map Co.data, sk)) := by
        refine hid ?_
        rw [hgl]
        by_cases hz : sk.2 = 0
        · rw [show n.toNat = 0 by omega]; simp [getL]
        · rw [getL_err getC _ l sk hz]; simp
      clear hgl hgo
      go_wp2_with fail
      go_ret
      exact ⟨_, outs, rfl, by rw [HEX.out], hl1, hE, hP, by rw [HEX.out]; exact hrrk, hGk⟩
end Go.Proofs.YtnkocbdbfkhgmaaDoor
