import Derived.Test.YtoceipdkmafagaaOpS
import Derived.Test.YtoceipdkmafagaaOpHead
/-! OpLimits: an operation that is right is not, with one part more than may be. -/
namespace Go.Proofs.Ytoceipdkmafagaa
open Go.RowKit Go.Cov
theorem zeros_made (n : Nat) : (madeCells (Value.int IntKind.u8 0).cells (n * 1)).toList = (List.replicate n (0 : UInt8)).map byt := by
  rw [List.map_replicate]; simp [madeCells, Value.cells, byt, Nat.mod_one, List.map_const']
theorem own_empty (w : World) (e : TypeId) (size : Nat) : (w.alloc (.cells #[] e)).ownsRow w.heap.size e size (.slice (some ⟨w.heap.size, 0, none⟩) 0 0) 0 [] :=
  ⟨by simp, .inr ⟨w.heap.size, 0, #[], rfl, Nat.le_refl _, heap_alloc_new w _, Nat.le_refl _, by unfold maxLen; omega, by simp, by simp⟩⟩
def s17 : List UInt8 := [97, 98, 99, 100, 101, 102, 103, 104, 105, 106, 107, 108, 109, 110, 111, 112, 113]
theorem rn_false {o : Oa} (h : rightN o.k o.n.length o.s.length o.f.length o.a.length o.key.length = false) : rightO o.data = false := by rw [rightO_of, h]; rfl
theorem ra_false {o : Oa} (x : En) (hx : x ∈ o.a) (h : argOk x.data = false) : rightO o.data = false := by
  rw [rightO_of]
  have : (o.a.map En.data).all argOk = false := by
    rw [List.all_eq_false]
    exact ⟨x.data, List.mem_map_of_mem hx, by rw [h]; simp⟩
  rw [this, Bool.and_false]
set_option maxRecDepth 100000 in
set_option maxHeartbeats 12800000 in
theorem limits_law (o : Oa) {w : World} (ho : OaOwn w o) :
    Calls Try.prog 4 #[o.val] w fun e w' => e = .returned (.bool true) ∧ Below w.heap.size w w' := by
  have hov : o.val = .agg #[.int .i64 o.k, .string (str o.n), .slice o.sA o.s.length o.sc, .string (str o.f), .slice o.aA o.a.length o.ac, .int .i64 o.g, .slice o.kA o.key.length o.kc] := rfl
  have KG := great_any o
  have KR := fun W (hW : OaOwn W o) => right_any o hW.rd
  rw [hov] at KG KR
  have KG := hid KG
  have KR := hid KR
  rw [hov]
  clear hov
  have bx := below_alloc w (.cells #[.int .i64 o.k, .string (str o.n), .slice o.sA o.s.length o.sc, .string (str o.f), .slice o.aA o.a.length o.ac, .int .i64 o.g, .slice o.kA o.key.length o.kc] 25)
  have Ro := Row.new w [.int .i64 o.k, .string (str o.n), .slice o.sA o.s.length o.sc, .string (str o.f), .slice o.aA o.a.length o.ac, .int .i64 o.g, .slice o.kA o.key.length o.kc] 25
  go_enter Try.func4, Try.ntmps4
  go_upto_region 1 with fail
  generalize w.alloc _ = w2 at bx Ro ⊢
  have b02 := bx
  clear bx
  replace ho := ho.below b02
  go_wp2_with fail
  refine (head_any w2).mono ?_
  rintro e w3 ⟨rfl, hb3⟩
  replace b02 := below_step b02 hb3
  replace Ro := Ro.below hb3
  replace ho := ho.below hb3
  have C0 := (Ro.2 0 _ rfl).1
  have C1 := (Ro.2 1 _ rfl).1
  have C2 := (Ro.2 2 _ rfl).1
  have C3 := (Ro.2 3 _ rfl).1
  have C4 := (Ro.2 4 _ rfl).1
  have C5 := (Ro.2 5 _ rfl).1
  have C6 := (Ro.2 6 _ rfl).1
  go_wp2_with fail
  refine (KG.out w3).mono ?_
  rintro e w4 ⟨gr, rfl, hb4⟩
  replace b02 := below_step b02 hb4
  clear C0 C1 C2 C3 C4 C5 C6
  replace Ro := Ro.below hb4
  replace ho := ho.below hb4
  cases gr
  case true =>
    go_wp2_with fail
    go_ret
    exact ⟨rfl, b02⟩
  have C0 := (Ro.2 0 _ rfl).1
  have C1 := (Ro.2 1 _ rfl).1
  have C2 := (Ro.2 2 _ rfl).1
  have C3 := (Ro.2 3 _ rfl).1
  have C4 := (Ro.2 4 _ rfl).1
  have C5 := (Ro.2 5 _ rfl).1
  have C6 := (Ro.2 6 _ rfl).1
  go_wp2_with fail
  refine (KR.out w4 ho).mono ?_
  rintro e w5 ⟨rfl, hb5⟩
  replace b02 := below_step b02 hb5
  clear C0 C1 C2 C3 C4 C5 C6
  replace Ro := Ro.below hb5
  replace ho := ho.below hb5
  cases hR : rightO o.data
  case false =>
    go_wp2_with fail
    go_ret
    exact ⟨rfl, b02⟩
  replace hR := hid hR
  clear KG KR hb3 hb4 hb5
  have C0 := (Ro.2 0 _ rfl).1
  have C1 := (Ro.2 1 _ rfl).1
  have C2 := (Ro.2 2 _ rfl).1
  have C3 := (Ro.2 3 _ rfl).1
  have C4 := (Ro.2 4 _ rfl).1
  have C5 := (Ro.2 5 _ rfl).1
  have C6 := (Ro.2 6 _ rfl).1
  have ho0 := ho
  have bx := below_alloc w5 (.cells #[.int .i64 4, .string (str o.n), .slice o.sA o.s.length o.sc, .string (str o.f), .slice o.aA o.a.length o.ac, .int .i64 o.g, .slice o.kA o.key.length o.kc] 25)
  have Va := Row.new w5 [.int .i64 4, .string (str o.n), .slice o.sA o.s.length o.sc, .string (str o.f), .slice o.aA o.a.length o.ac, .int .i64 o.g, .slice o.kA o.key.length o.kc] 25
  go_upto_region 6 with fail
  generalize w5.alloc _ = wa at bx Va ⊢
  clear C0 C1 C2 C3 C4 C5 C6
  replace Ro := Ro.below bx
  replace b02 := below_step b02 bx
  replace ho := ho.below bx
  clear bx
  have C0 := (Ro.2 0 _ rfl).1
  have C1 := (Ro.2 1 _ rfl).1
  have C2 := (Ro.2 2 _ rfl).1
  have C3 := (Ro.2 3 _ rfl).1
  have C4 := (Ro.2 4 _ rfl).1
  have C5 := (Ro.2 5 _ rfl).1
  have C6 := (Ro.2 6 _ rfl).1
  have bx := below_alloc wa (.cells #[.int .i64 o.k, .string ⟨#[97, 98, 99, 100, 101, 102, 103, 104, 105, 106, 107, 108, 109, 110, 111, 112, 113]⟩, .slice o.sA o.s.length o.sc, .string (str o.f), .slice o.aA o.a.length o.ac, .int .i64 o.g, .slice o.kA o.key.length o.kc] 25)
  have Vb := Row.new wa [.int .i64 o.k, .string ⟨#[97, 98, 99, 100, 101, 102, 103, 104, 105, 106, 107, 108, 109, 110, 111, 112, 113]⟩, .slice o.sA o.s.length o.sc, .string (str o.f), .slice o.aA o.a.length o.ac, .int .i64 o.g, .slice o.kA o.key.length o.kc] 25
  go_upto_region 8 with fail
  generalize wa.alloc _ = wb at bx Vb ⊢
  clear C0 C1 C2 C3 C4 C5 C6
  replace Ro := Ro.below bx
  replace Va := Va.below bx
  replace b02 := below_step b02 bx
  replace ho := ho.below bx
  clear bx
  have C0 := (Ro.2 0 _ rfl).1
  have C1 := (Ro.2 1 _ rfl).1
  have C2 := (Ro.2 2 _ rfl).1
  have C3 := (Ro.2 3 _ rfl).1
  have C4 := (Ro.2 4 _ rfl).1
  have C5 := (Ro.2 5 _ rfl).1
  have C6 := (Ro.2 6 _ rfl).1
  have bx := below_alloc wb (.cells #[.int .i64 o.k, .string (str o.n), .slice o.sA o.s.length o.sc, .string ⟨#[97, 98, 99, 100, 101, 102, 103, 104, 105, 106, 107, 108, 109, 110, 111, 112, 113]⟩, .slice o.aA o.a.length o.ac, .int .i64 o.g, .slice o.kA o.key.length o.kc] 25)
  have Vc := Row.new wb [.int .i64 o.k, .string (str o.n), .slice o.sA o.s.length o.sc, .string ⟨#[97, 98, 99, 100, 101, 102, 103, 104, 105, 106, 107, 108, 109, 110, 111, 112, 113]⟩, .slice o.aA o.a.length o.ac, .int .i64 o.g, .slice o.kA o.key.length o.kc] 25
  go_upto_region 10 with fail
  generalize wb.alloc _ = wc at bx Vc ⊢
  clear C0 C1 C2 C3 C4 C5 C6
  replace Ro := Ro.below bx
  replace Va := Va.below bx
  replace Vb := Vb.below bx
  replace b02 := below_step b02 bx
  replace ho := ho.below bx
  clear bx
  have C0 := (Ro.2 0 _ rfl).1
  have C1 := (Ro.2 1 _ rfl).1
  have C2 := (Ro.2 2 _ rfl).1
  have C3 := (Ro.2 3 _ rfl).1
  have C4 := (Ro.2 4 _ rfl).1
  have C5 := (Ro.2 5 _ rfl).1
  have C6 := (Ro.2 6 _ rfl).1
  have bx := below_alloc wc (.cells #[.int .i64 o.k, .string (str o.n), .slice o.sA o.s.length o.sc, .string (str o.f), .slice o.aA o.a.length o.ac, .int .i64 o.g, .slice o.kA o.key.length o.kc] 25)
  have Vd := Row.new wc [.int .i64 o.k, .string (str o.n), .slice o.sA o.s.length o.sc, .string (str o.f), .slice o.aA o.a.length o.ac, .int .i64 o.g, .slice o.kA o.key.length o.kc] 25
  have zx : wc.heap.size < (wc.alloc (.cells #[.int .i64 o.k, .string (str o.n), .slice o.sA o.s.length o.sc, .string (str o.f), .slice o.aA o.a.length o.ac, .int .i64 o.g, .slice o.kA o.key.length o.kc] 25)).heap.size := by simp
  go_upto_region 11 with fail
  generalize wc.alloc _ = wd0 at bx Vd zx ⊢
  clear C0 C1 C2 C3 C4 C5 C6
  go_upto_region 12 with (at_make; refine wpList_mkn rfl (.const (.int .i64 4098)) (.const (.int .i64 4098)) 22 rfl wd0.heap.size 5 Try.underlying22 infoB 4098 rfl rfl rfl rfl (by omega) (by omega) (Nat.le_refl _) ?_; intro wm ownm hgm; have bm := below_of_grown hgm; replace Vd := Vd.below bm; have M := (Vd.2 2 _ rfl).1; have MF := (Vd.2 2 _ rfl).2)
  clear M MF
  have be := (below_step bx bm).setCell (p := ⟨wc.heap.size, 2, none⟩) (Nat.le_refl _) (.slice (some ⟨wd0.heap.size, 0, none⟩) 4098 4098)
  replace Vd := Vd.set 2 (by simp) (.slice (some ⟨wd0.heap.size, 0, none⟩) 4098 4098)
  simp only [List.set_cons_zero, List.set_cons_succ] at Vd
  have Td : Rd (wm.setCell ⟨wc.heap.size, 2, none⟩ (.slice (some ⟨wd0.heap.size, 0, none⟩) 4098 4098)) (some ⟨wd0.heap.size, 0, none⟩) ((List.replicate 4098 (0 : UInt8)).map byt) := by
    have := own_rd ((Gro.set wc.heap.size wc.heap.size 2 wm (.slice (some ⟨wd0.heap.size, 0, none⟩) 4098 4098)).own ownm (by omega))
    rwa [zeros_made] at this
  clear bx bm ownm hgm zx
  generalize World.setCell _ _ _ = wd at be Vd Td ⊢
  replace Ro := Ro.below be
  replace Va := Va.below be
  replace Vb := Vb.below be
  replace Vc := Vc.below be
  replace b02 := below_step b02 be
  replace ho := ho.below be
  clear be
  have C0 := (Ro.2 0 _ rfl).1
  have C1 := (Ro.2 1 _ rfl).1
  have C2 := (Ro.2 2 _ rfl).1
  have C3 := (Ro.2 3 _ rfl).1
  have C4 := (Ro.2 4 _ rfl).1
  have C5 := (Ro.2 5 _ rfl).1
  have C6 := (Ro.2 6 _ rfl).1
  have bx := below_alloc wd (.cells #[.int .i64 o.k, .string (str o.n), .slice o.sA o.s.length o.sc, .string (str o.f), .slice o.aA o.a.length o.ac, .int .i64 o.g, .slice o.kA o.key.length o.kc] 25)
  have Ve := Row.new wd [.int .i64 o.k, .string (str o.n), .slice o.sA o.s.length o.sc, .string (str o.f), .slice o.aA o.a.length o.ac, .int .i64 o.g, .slice o.kA o.key.length o.kc] 25
  have zx : wd.heap.size < (wd.alloc (.cells #[.int .i64 o.k, .string (str o.n), .slice o.sA o.s.length o.sc, .string (str o.f), .slice o.aA o.a.length o.ac, .int .i64 o.g, .slice o.kA o.key.length o.kc] 25)).heap.size := by simp
  go_upto_region 13 with fail
  generalize wd.alloc _ = we0 at bx Ve zx ⊢
  clear C0 C1 C2 C3 C4 C5 C6
  go_upto_region 14 with (at_make; refine wpList_mkn rfl (.const (.int .i64 66)) (.const (.int .i64 66)) 22 rfl we0.heap.size 5 Try.underlying22 infoB 66 rfl rfl rfl rfl (by omega) (by omega) (Nat.le_refl _) ?_; intro wm ownm hgm; have bm := below_of_grown hgm; replace Ve := Ve.below bm; have M := (Ve.2 6 _ rfl).1; have MF := (Ve.2 6 _ rfl).2)
  clear M MF
  have be := (below_step bx bm).setCell (p := ⟨wd.heap.size, 6, none⟩) (Nat.le_refl _) (.slice (some ⟨we0.heap.size, 0, none⟩) 66 66)
  replace Ve := Ve.set 6 (by simp) (.slice (some ⟨we0.heap.size, 0, none⟩) 66 66)
  simp only [List.set_cons_zero, List.set_cons_succ] at Ve
  have Te : Rd (wm.setCell ⟨wd.heap.size, 6, none⟩ (.slice (some ⟨we0.heap.size, 0, none⟩) 66 66)) (some ⟨we0.heap.size, 0, none⟩) ((List.replicate 66 (0 : UInt8)).map byt) := by
    have := own_rd ((Gro.set wd.heap.size wd.heap.size 6 wm (.slice (some ⟨we0.heap.size, 0, none⟩) 66 66)).own ownm (by omega))
    rwa [zeros_made] at this
  clear bx bm ownm hgm zx
  generalize World.setCell _ _ _ = we at be Ve Te ⊢
  replace Ro := Ro.below be
  replace Va := Va.below be
  replace Vb := Vb.below be
  replace Vc := Vc.below be
  replace Vd := Vd.below be
  replace Td := Td.below be
  replace b02 := below_step b02 be
  replace ho := ho.below be
  clear be
  have C0 := (Ro.2 0 _ rfl).1
  have C1 := (Ro.2 1 _ rfl).1
  have C2 := (Ro.2 2 _ rfl).1
  have C3 := (Ro.2 3 _ rfl).1
  have C4 := (Ro.2 4 _ rfl).1
  have C5 := (Ro.2 5 _ rfl).1
  have C6 := (Ro.2 6 _ rfl).1
  have ha16 : o.a.length ≤ 16 := by
    have h1 := hR.out
    rw [rightO_of, Bool.and_eq_true] at h1
    have h2 := of_decide_eq_true h1.1
    omega
  have bx := below_alloc we (.cells #[.int .i64 o.k, .string (str o.n), .slice o.sA o.s.length o.sc, .string (str o.f), .slice o.aA o.a.length o.ac, .int .i64 o.g, .slice o.kA o.key.length o.kc] 25)
  have Rf := Row.new we [.int .i64 o.k, .string (str o.n), .slice o.sA o.s.length o.sc, .string (str o.f), .slice o.aA o.a.length o.ac, .int .i64 o.g, .slice o.kA o.key.length o.kc] 25
  have zx : we.heap.size < (we.alloc (.cells #[.int .i64 o.k, .string (str o.n), .slice o.sA o.s.length o.sc, .string (str o.f), .slice o.aA o.a.length o.ac, .int .i64 o.g, .slice o.kA o.key.length o.kc] 25)).heap.size := by simp
  go_upto_region 15 with fail
  generalize we.alloc _ = wf0 at bx Rf zx ⊢
  clear C0 C1 C2 C3 C4 C5 C6
  have C4 := ((Ro.below bx).below (below_alloc wf0 (.cells #[] 29))).2 4 _ rfl |>.1
  have ho1 := (ho.below bx).below (below_alloc wf0 (.cells #[] 29))
  have own0 := own_empty wf0 29 3
  have b1 := below_alloc wf0 (.cells #[] 29)
  have z1 : (wf0.alloc (.cells #[] 29)).heap.size = wf0.heap.size + 1 := by simp
  have a2 : (o.a.flatMap enEl.cells).length = o.a.length * 3 := El.flat_len enEl o.a
  have a3 := El.flat_one enEl o.a
  have a4 := ho1.rd.a.1
  go_upto_region 16 with (at_builtin; first | (refine wpList_app rfl (.tmp 33) (.tmp 35) 23 rfl wf0.heap.size 29 Try.underlying23 infoV rfl (by decide) (.slice (some ⟨wf0.heap.size, 0, none⟩) 0 0) 0 [] rfl own0 o.aA o.a.length o.ac (o.a.flatMap enEl.cells) rfl a2 a4 a3 (by omega) (by omega) (by omega) ?_; intro v1 w1 own1 hg1 hat1; replace own1 : w1.ownsRow wf0.heap.size 29 3 v1 o.a.length (o.a.flatMap enEl.cells) := (by simpa using own1); obtain ⟨A1, c1, rfl, _⟩ := own_shape own1; have b2 := b1.grown hg1 (by omega) (fun k hk => (own_lt own0 hk).1); have own1' := own_below own1 (below_alloc w1 (.cells #[.int .i64 0, .int .i64 0, .slice none 0 0] 29)); have rz := rd_box w1 #[.int .i64 0, .int .i64 0, .slice none 0 0] 29; have b3 := b2.trans ((below_alloc w1 (.cells #[.int .i64 0, .int .i64 0, .slice none 0 0] 29)).mono b2.size); have zz1 := b3.size) | (refine wpList_app rfl (.tmp 36) (.tmp 38) 23 rfl wf0.heap.size 29 Try.underlying23 infoV rfl (by decide) (.slice A1 o.a.length c1) o.a.length (o.a.flatMap enEl.cells) rfl own1' (some ⟨w1.heap.size, 0, none⟩) 1 1 [.int .i64 0, .int .i64 0, .slice none 0 0] rfl rfl rz (by intro u hu; simp at hu; rcases hu with rfl | rfl | rfl <;> rfl) (by omega) (by omega) (by omega) ?_; intro v2 w2' own2 hg2 hat2; obtain ⟨A2, c2, rfl, _⟩ := own_shape own2; have b4 := b3.grown hg2 (by omega) (fun k hk => (own_lt own1' hk).1); have Rf4 := Rf.below b4; have M := (Rf4.2 4 _ rfl).1; have MF := (Rf4.2 4 _ rfl).2))
  clear M MF
  have be := (below_step bx b4).setCell (p := ⟨we.heap.size, 4, none⟩) (Nat.le_refl _) (.slice A2 (o.a.length + 1) c2)
  have Vf := Rf4.set 4 (by simp) (.slice A2 (o.a.length + 1) c2)
  simp only [List.set_cons_zero, List.set_cons_succ] at Vf
  have Tf0 := own_rd ((Gro.set we.heap.size we.heap.size 4 w2' (.slice A2 (o.a.length + 1) c2)).own own2 (by omega))
  clear Rf Rf4 own0 own1 own1' own2 hg1 hg2 hat1 hat2 b1 b2 b3 b4 rz zz1 z1 zx bx ho1 C4 a2 a3 a4
  generalize World.setCell _ _ _ = wf at be Vf Tf0 ⊢
  replace Ro := Ro.below be
  replace Va := Va.below be
  replace Vb := Vb.below be
  replace Vc := Vc.below be
  replace Vd := Vd.below be
  replace Ve := Ve.below be
  replace Td := Td.below be
  replace Te := Te.below be
  replace b02 := below_step b02 be
  replace ho := ho.below be
  clear be
  have Tf : Els enEl wf A2 (o.a ++ [⟨0, 0, none, 0, []⟩]) := by
    refine ⟨?_, fun a ha p hp => ?_⟩
    · rw [List.flatMap_append]; exact Tf0
    · rcases List.mem_append.1 ha with ha | ha
      · exact ho.rd.a.2 a ha p hp
      · rw [List.mem_singleton.1 ha] at hp
        rw [List.mem_singleton.1 hp]
        exact ⟨none, 0, rfl, by decide, by decide, Rd.nil _ _⟩
  clear Tf0
  have C0 := (Ro.2 0 _ rfl).1
  have C1 := (Ro.2 1 _ rfl).1
  have C2 := (Ro.2 2 _ rfl).1
  have C3 := (Ro.2 3 _ rfl).1
  have C4 := (Ro.2 4 _ rfl).1
  have C5 := (Ro.2 5 _ rfl).1
  have C6 := (Ro.2 6 _ rfl).1
  have bx := below_alloc wf (.cells #[.int .i64 o.k, .string (str o.n), .slice o.sA o.s.length o.sc, .string (str o.f), .slice o.aA o.a.length o.ac, .int .i64 o.g, .slice o.kA o.key.length o.kc] 25)
  have Vg := Row.new wf [.int .i64 o.k, .string (str o.n), .slice o.sA o.s.length o.sc, .string (str o.f), .slice o.aA o.a.length o.ac, .int .i64 o.g, .slice o.kA o.key.length o.kc] 25
  have zx : wf.heap.size < (wf.alloc (.cells #[.int .i64 o.k, .string (str o.n), .slice o.sA o.s.length o.sc, .string (str o.f), .slice o.aA o.a.length o.ac, .int .i64 o.g, .slice o.kA o.key.length o.kc] 25)).heap.size := by simp
  go_upto_region 17 with fail
  generalize wf.alloc _ = wg0 at bx Vg zx ⊢
  clear C0 C1 C2 C3 C4 C5 C6
  go_upto_region 18 with (at_make; refine wpList_mkn rfl (.const (.int .i64 257)) (.const (.int .i64 257)) 22 rfl wg0.heap.size 5 Try.underlying22 infoB 257 rfl rfl rfl rfl (by omega) (by omega) (Nat.le_refl _) ?_; intro wm ownm hgm; have bm := below_of_grown hgm; have bn := below_alloc wm (.cells #[.int .i64 3, .int .i64 0, .slice (some ⟨wg0.heap.size, 0, none⟩) 257 257] 29); have zg := bm.size; replace Vg := (Vg.below bm).below bn; have M := (Vg.2 4 _ rfl).1; have MF := (Vg.2 4 _ rfl).2)
  clear M MF
  have be := (below_step (below_step bx bm) bn).setCell (p := ⟨wf.heap.size, 4, none⟩) (Nat.le_refl _) (.slice (some ⟨wm.heap.size, 0, none⟩) 1 1)
  replace Vg := Vg.set 4 (by simp) (.slice (some ⟨wm.heap.size, 0, none⟩) 1 1)
  simp only [List.set_cons_zero, List.set_cons_succ] at Vg
  have gs := Gro.set wf.heap.size wf.heap.size 4 (wm.alloc (.cells #[.int .i64 3, .int .i64 0, .slice (some ⟨wg0.heap.size, 0, none⟩) 257 257] 29)) (.slice (some ⟨wm.heap.size, 0, none⟩) 1 1)
  have Tg0 : Rd ((wm.alloc (.cells #[.int .i64 3, .int .i64 0, .slice (some ⟨wg0.heap.size, 0, none⟩) 257 257] 29)).setCell ⟨wf.heap.size, 4, none⟩ (.slice (some ⟨wm.heap.size, 0, none⟩) 1 1)) (some ⟨wg0.heap.size, 0, none⟩) ((List.replicate 257 (0 : UInt8)).map byt) := by
    have := own_rd (gs.own (own_below ownm bn) (by omega))
    rwa [zeros_made] at this
  have Tg1 := gs.rd (rd_box wm #[.int .i64 3, .int .i64 0, .slice (some ⟨wg0.heap.size, 0, none⟩) 257 257] 29) (fun ad ha => by cases ha; constructor <;> (show wm.heap.size ≠ wf.heap.size; omega))
  clear bx bm bn ownm hgm zx gs zg
  generalize World.setCell _ _ _ = wg at be Vg Tg0 Tg1 ⊢
  replace Ro := Ro.below be
  replace Va := Va.below be
  replace Vb := Vb.below be
  replace Vc := Vc.below be
  replace Vd := Vd.below be
  replace Ve := Ve.below be
  replace Vf := Vf.below be
  replace Td := Td.below be
  replace Te := Te.below be
  replace Tf := Tf.below be
  replace b02 := below_step b02 be
  replace ho := ho.below be
  clear be
  have Tg : Els enEl wg (some ⟨wm.heap.size, 0, none⟩) [⟨3, 0, some ⟨wg0.heap.size, 0, none⟩, 257, List.replicate 257 0⟩] := by
    refine ⟨?_, fun a ha p hp => ?_⟩
    · have e : ([⟨3, 0, some ⟨wg0.heap.size, 0, none⟩, 257, List.replicate 257 0⟩] : List En).flatMap enEl.cells = [.int .i64 3, .int .i64 0, .slice (some ⟨wg0.heap.size, 0, none⟩) (List.replicate 257 (0 : UInt8)).length 257] := rfl
      rw [e, List.length_replicate]; exact Tg1
    · rw [List.mem_singleton.1 ha] at hp
      rw [List.mem_singleton.1 hp]
      exact ⟨_, 257, rfl, by simp, by unfold maxLen; omega, Tg0⟩
  clear Tg0 Tg1
  obtain ⟨oa, hoa⟩ : ∃ x : Oa, x = ⟨4, o.n, o.sA, o.sc, o.s, o.f, o.aA, o.ac, o.a, o.g, o.kA, o.kc, o.key⟩ := ⟨_, rfl⟩
  have Ka := right_any oa (w := wg) (by rw [hoa]; exact ⟨ho.rd.s, ho.rd.a, ho.rd.key, ho.rd.am⟩)
  have hfa : rightO oa.data = false := by rw [hoa]; exact rn_false (decide_eq_false (by dsimp only; omega))
  have hva : oa.val = .agg #[.int .i64 4, .string (str o.n), .slice o.sA o.s.length o.sc, .string (str o.f), .slice o.aA o.a.length o.ac, .int .i64 o.g, .slice o.kA o.key.length o.kc] := by rw [hoa]; rfl
  rw [hfa, hva] at Ka
  clear hoa hfa hva
  replace Ka := hid Ka
  have a_0 := (Va.2 0 _ rfl).1
  have a_1 := (Va.2 1 _ rfl).1
  have a_2 := (Va.2 2 _ rfl).1
  have a_3 := (Va.2 3 _ rfl).1
  have a_4 := (Va.2 4 _ rfl).1
  have a_5 := (Va.2 5 _ rfl).1
  have a_6 := (Va.2 6 _ rfl).1
  go_wp2_with fail
  refine Ka.out.mono ?_
  rintro e wa9 ⟨rfl, hb⟩
  clear a_0 a_1 a_2 a_3 a_4 a_5 a_6
  clear Va Ka oa
  replace Ro := Ro.below hb
  replace Vb := Vb.below hb
  replace Vc := Vc.below hb
  replace Vd := Vd.below hb
  replace Ve := Ve.below hb
  replace Vf := Vf.below hb
  replace Vg := Vg.below hb
  replace Td := Td.below hb
  replace Te := Te.below hb
  replace Tf := Tf.below hb
  replace Tg := Tg.below hb
  replace b02 := below_step b02 hb
  replace ho := ho.below hb
  clear hb
  obtain ⟨ob, hob⟩ : ∃ x : Oa, x = ⟨o.k, s17, o.sA, o.sc, o.s, o.f, o.aA, o.ac, o.a, o.g, o.kA, o.kc, o.key⟩ := ⟨_, rfl⟩
  have Kb := right_any ob (w := wa9) (by rw [hob]; exact ⟨ho.rd.s, ho.rd.a, ho.rd.key, ho.rd.am⟩)
  have hfb : rightO ob.data = false := by rw [hob]; exact rn_false (decide_eq_false (fun hh => absurd hh.2.2.1 (show ¬ s17.length ≤ 16 by decide)))
  have hvb : ob.val = .agg #[.int .i64 o.k, .string ⟨#[97, 98, 99, 100, 101, 102, 103, 104, 105, 106, 107, 108, 109, 110, 111, 112, 113]⟩, .slice o.sA o.s.length o.sc, .string (str o.f), .slice o.aA o.a.length o.ac, .int .i64 o.g, .slice o.kA o.key.length o.kc] := by rw [hob]; rfl
  rw [hfb, hvb] at Kb
  clear hob hfb hvb
  replace Kb := hid Kb
  have b_0 := (Vb.2 0 _ rfl).1
  have b_1 := (Vb.2 1 _ rfl).1
  have b_2 := (Vb.2 2 _ rfl).1
  have b_3 := (Vb.2 3 _ rfl).1
  have b_4 := (Vb.2 4 _ rfl).1
  have b_5 := (Vb.2 5 _ rfl).1
  have b_6 := (Vb.2 6 _ rfl).1
  go_wp2_with fail
  refine Kb.out.mono ?_
  rintro e wb9 ⟨rfl, hb⟩
  clear b_0 b_1 b_2 b_3 b_4 b_5 b_6
  clear Vb Kb ob
  replace Ro := Ro.below hb
  replace Vc := Vc.below hb
  replace Vd := Vd.below hb
  replace Ve := Ve.below hb
  replace Vf := Vf.below hb
  replace Vg := Vg.below hb
  replace Td := Td.below hb
  replace Te := Te.below hb
  replace Tf := Tf.below hb
  replace Tg := Tg.below hb
  replace b02 := below_step b02 hb
  replace ho := ho.below hb
  clear hb
  obtain ⟨oc, hoc⟩ : ∃ x : Oa, x = ⟨o.k, o.n, o.sA, o.sc, o.s, s17, o.aA, o.ac, o.a, o.g, o.kA, o.kc, o.key⟩ := ⟨_, rfl⟩
  have Kc := right_any oc (w := wb9) (by rw [hoc]; exact ⟨ho.rd.s, ho.rd.a, ho.rd.key, ho.rd.am⟩)
  have hfc : rightO oc.data = false := by rw [hoc]; exact rn_false (decide_eq_false (fun hh => absurd hh.2.2.2.1 (show ¬ s17.length ≤ 16 by decide)))
  have hvc : oc.val = .agg #[.int .i64 o.k, .string (str o.n), .slice o.sA o.s.length o.sc, .string ⟨#[97, 98, 99, 100, 101, 102, 103, 104, 105, 106, 107, 108, 109, 110, 111, 112, 113]⟩, .slice o.aA o.a.length o.ac, .int .i64 o.g, .slice o.kA o.key.length o.kc] := by rw [hoc]; rfl
  rw [hfc, hvc] at Kc
  clear hoc hfc hvc
  replace Kc := hid Kc
  have c_0 := (Vc.2 0 _ rfl).1
  have c_1 := (Vc.2 1 _ rfl).1
  have c_2 := (Vc.2 2 _ rfl).1
  have c_3 := (Vc.2 3 _ rfl).1
  have c_4 := (Vc.2 4 _ rfl).1
  have c_5 := (Vc.2 5 _ rfl).1
  have c_6 := (Vc.2 6 _ rfl).1
  go_wp2_with fail
  refine Kc.out.mono ?_
  rintro e wc9 ⟨rfl, hb⟩
  clear c_0 c_1 c_2 c_3 c_4 c_5 c_6
  clear Vc Kc oc
  replace Ro := Ro.below hb
  replace Vd := Vd.below hb
  replace Ve := Ve.below hb
  replace Vf := Vf.below hb
  replace Vg := Vg.below hb
  replace Td := Td.below hb
  replace Te := Te.below hb
  replace Tf := Tf.below hb
  replace Tg := Tg.below hb
  replace b02 := below_step b02 hb
  replace ho := ho.below hb
  clear hb
  obtain ⟨od, hod⟩ : ∃ x : Oa, x = ⟨o.k, o.n, some ⟨wd0.heap.size, 0, none⟩, 4098, List.replicate 4098 0, o.f, o.aA, o.ac, o.a, o.g, o.kA, o.kc, o.key⟩ := ⟨_, rfl⟩
  have Kd := right_any od (w := wc9) (by rw [hod]; exact ⟨Td, ho.rd.a, ho.rd.key, ho.rd.am⟩)
  have hfd : rightO od.data = false := by rw [hod]; exact rn_false (decide_eq_false (fun hh => absurd hh.2.2.2.2.1 (by rw [List.length_replicate]; decide)))
  have hvd : od.val = .agg #[.int .i64 o.k, .string (str o.n), .slice (some ⟨wd0.heap.size, 0, none⟩) 4098 4098, .string (str o.f), .slice o.aA o.a.length o.ac, .int .i64 o.g, .slice o.kA o.key.length o.kc] := by rw [hod]; unfold Oa.val; dsimp only; rw [List.length_replicate]
  rw [hfd, hvd] at Kd
  clear hod hfd hvd
  replace Kd := hid Kd
  have d_0 := (Vd.2 0 _ rfl).1
  have d_1 := (Vd.2 1 _ rfl).1
  have d_2 := (Vd.2 2 _ rfl).1
  have d_3 := (Vd.2 3 _ rfl).1
  have d_4 := (Vd.2 4 _ rfl).1
  have d_5 := (Vd.2 5 _ rfl).1
  have d_6 := (Vd.2 6 _ rfl).1
  go_wp2_with fail
  refine Kd.out.mono ?_
  rintro e wd9 ⟨rfl, hb⟩
  clear d_0 d_1 d_2 d_3 d_4 d_5 d_6
  clear Vd Kd od
  replace Ro := Ro.below hb
  replace Ve := Ve.below hb
  replace Vf := Vf.below hb
  replace Vg := Vg.below hb
  replace Td := Td.below hb
  replace Te := Te.below hb
  replace Tf := Tf.below hb
  replace Tg := Tg.below hb
  replace b02 := below_step b02 hb
  replace ho := ho.below hb
  clear hb
  obtain ⟨oe, hoe⟩ : ∃ x : Oa, x = ⟨o.k, o.n, o.sA, o.sc, o.s, o.f, o.aA, o.ac, o.a, o.g, some ⟨we0.heap.size, 0, none⟩, 66, List.replicate 66 0⟩ := ⟨_, rfl⟩
  have Ke := right_any oe (w := wd9) (by rw [hoe]; exact ⟨ho.rd.s, ho.rd.a, Te, ho.rd.am⟩)
  have hfe : rightO oe.data = false := by rw [hoe]; exact rn_false (decide_eq_false (fun hh => absurd hh.2.2.2.2.2.1 (by rw [List.length_replicate]; decide)))
  have hve : oe.val = .agg #[.int .i64 o.k, .string (str o.n), .slice o.sA o.s.length o.sc, .string (str o.f), .slice o.aA o.a.length o.ac, .int .i64 o.g, .slice (some ⟨we0.heap.size, 0, none⟩) 66 66] := by rw [hoe]; unfold Oa.val; dsimp only; rw [List.length_replicate]
  rw [hfe, hve] at Ke
  clear hoe hfe hve
  replace Ke := hid Ke
  have e_0 := (Ve.2 0 _ rfl).1
  have e_1 := (Ve.2 1 _ rfl).1
  have e_2 := (Ve.2 2 _ rfl).1
  have e_3 := (Ve.2 3 _ rfl).1
  have e_4 := (Ve.2 4 _ rfl).1
  have e_5 := (Ve.2 5 _ rfl).1
  have e_6 := (Ve.2 6 _ rfl).1
  go_wp2_with fail
  refine Ke.out.mono ?_
  rintro e we9 ⟨rfl, hb⟩
  clear e_0 e_1 e_2 e_3 e_4 e_5 e_6
  clear Ve Ke oe
  replace Ro := Ro.below hb
  replace Vf := Vf.below hb
  replace Vg := Vg.below hb
  replace Td := Td.below hb
  replace Te := Te.below hb
  replace Tf := Tf.below hb
  replace Tg := Tg.below hb
  replace b02 := below_step b02 hb
  replace ho := ho.below hb
  clear hb
  obtain ⟨of, hof⟩ : ∃ x : Oa, x = ⟨o.k, o.n, o.sA, o.sc, o.s, o.f, A2, c2, o.a ++ [⟨0, 0, none, 0, []⟩], o.g, o.kA, o.kc, o.key⟩ := ⟨_, rfl⟩
  have Kf := right_any of (w := we9) (by rw [hof]; exact ⟨ho.rd.s, Tf, ho.rd.key, by rw [List.length_append]; simp [maxLen]; omega⟩)
  have hff : rightO of.data = false := by rw [hof]; exact ra_false ⟨0, 0, none, 0, []⟩ (List.mem_append_right _ (List.mem_singleton.2 rfl)) rfl
  have hvf : of.val = .agg #[.int .i64 o.k, .string (str o.n), .slice o.sA o.s.length o.sc, .string (str o.f), .slice A2 (o.a.length + 1) c2, .int .i64 o.g, .slice o.kA o.key.length o.kc] := by rw [hof]; unfold Oa.val; dsimp only; rw [List.length_append]; rfl
  rw [hff, hvf] at Kf
  clear hof hff hvf
  replace Kf := hid Kf
  have f_0 := (Vf.2 0 _ rfl).1
  have f_1 := (Vf.2 1 _ rfl).1
  have f_2 := (Vf.2 2 _ rfl).1
  have f_3 := (Vf.2 3 _ rfl).1
  have f_4 := (Vf.2 4 _ rfl).1
  have f_5 := (Vf.2 5 _ rfl).1
  have f_6 := (Vf.2 6 _ rfl).1
  go_wp2_with fail
  refine Kf.out.mono ?_
  rintro e wf9 ⟨rfl, hb⟩
  clear f_0 f_1 f_2 f_3 f_4 f_5 f_6
  clear Vf Kf of
  replace Ro := Ro.below hb
  replace Vg := Vg.below hb
  replace Td := Td.below hb
  replace Te := Te.below hb
  replace Tf := Tf.below hb
  replace Tg := Tg.below hb
  replace b02 := below_step b02 hb
  replace ho := ho.below hb
  clear hb
  obtain ⟨og, hog⟩ : ∃ x : Oa, x = ⟨o.k, o.n, o.sA, o.sc, o.s, o.f, some ⟨wm.heap.size, 0, none⟩, 1, [⟨3, 0, some ⟨wg0.heap.size, 0, none⟩, 257, List.replicate 257 0⟩], o.g, o.kA, o.kc, o.key⟩ := ⟨_, rfl⟩
  have Kg := right_any og (w := wf9) (by rw [hog]; exact ⟨ho.rd.s, Tg, ho.rd.key, by show 1 ≤ maxLen; decide⟩)
  have hfg : rightO og.data = false := by rw [hog]; exact ra_false ⟨3, 0, some ⟨wg0.heap.size, 0, none⟩, 257, List.replicate 257 0⟩ (List.mem_singleton.2 rfl) (by unfold argOk plainV En.data; simp)
  have hvg : og.val = .agg #[.int .i64 o.k, .string (str o.n), .slice o.sA o.s.length o.sc, .string (str o.f), .slice (some ⟨wm.heap.size, 0, none⟩) 1 1, .int .i64 o.g, .slice o.kA o.key.length o.kc] := by rw [hog]; rfl
  rw [hfg, hvg] at Kg
  clear hog hfg hvg
  replace Kg := hid Kg
  have g_0 := (Vg.2 0 _ rfl).1
  have g_1 := (Vg.2 1 _ rfl).1
  have g_2 := (Vg.2 2 _ rfl).1
  have g_3 := (Vg.2 3 _ rfl).1
  have g_4 := (Vg.2 4 _ rfl).1
  have g_5 := (Vg.2 5 _ rfl).1
  have g_6 := (Vg.2 6 _ rfl).1
  go_wp2_with fail
  refine Kg.out.mono ?_
  rintro e wg9 ⟨rfl, hb⟩
  clear g_0 g_1 g_2 g_3 g_4 g_5 g_6
  clear Vg Kg og
  replace Ro := Ro.below hb
  replace Td := Td.below hb
  replace Te := Te.below hb
  replace Tf := Tf.below hb
  replace Tg := Tg.below hb
  replace b02 := below_step b02 hb
  replace ho := ho.below hb
  clear hb
  go_wp2_with fail
  go_ret
  exact ⟨rfl, b02⟩
end Go.Proofs.Ytoceipdkmafagaa
