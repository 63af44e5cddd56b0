import Derived.Test.YtgkdnhbhmebmeaaDoorPostSizes
import Derived.Test.YtgkdnhbhmebmeaaDoorPostH
import Derived.Test.YtgkdnhbhmebmeaaDoorPlain1
/-! PostLimits: a message that may be sent may not, with one part more than may be. -/
namespace Go.Proofs.YtgkdnhbhmebmeaaDoor
open Go.RowKit Go.Cov
theorem zeros_made (n : Nat) : (madeCells (Value.int IntKind.u8 0).cells (n * 1)).toList = (List.replicate n (0 : UInt8)).map byt := by
  rw [List.map_replicate]; simp [madeCells, Value.cells, byt, Nat.mod_one, List.map_const']
def zEn : En := ⟨0, 0, none, 0, []⟩
theorem ents_made : (madeCells (Value.agg #[.int .i64 0, .int .i64 0, .slice none 0 0]).cells (65 * 3)).toList = (List.replicate 65 zEn).flatMap enEl.cells := by kernel_rfl
theorem right_facts {o : Ma} (h : rightM o.data = true) : (1 ≤ o.n.1 ∧ o.n.1 ≤ 12) ∧ (-1 ≤ o.n.2.1 ∧ o.n.2.1 ≤ 6) ∧ (-1 ≤ o.n.2.2.1 ∧ o.n.2.2.1 ≤ 6) ∧ (0 ≤ o.n.2.2.2.1 ∧ o.n.2.2.2.1 ≤ 1099511627776) ∧ (0 ≤ o.n.2.2.2.2.1 ∧ o.n.2.2.2.2.1 ≤ 1099511627776) ∧ o.es.length ≤ 64 ∧ o.b.length ≤ 8192 ∧ o.chk.length ≤ 65536 := by
  have hl := rightM_len h
  rw [rightM_of2] at h
  simp only [Bool.and_eq_true, Bool.not_eq_true', decide_eq_false_iff_not, node, span, decide_eq_true_eq] at h
  obtain ⟨h1, h2, h3, h4, h5, h6, _⟩ := h
  exact ⟨⟨by omega, by omega⟩, h3, h4, h5, h6, hl.2.2.1, hl.1, hl.2.1⟩
theorem not_right {o : Ma} (h : rightM o.data = true → False) : rightM o.data = false := by
  cases hr : rightM o.data
  · rfl
  · exact absurd hr (fun e => h e)
theorem lim_a (o : Ma) : rightM (⟨(13, o.n.2.1, o.n.2.2.1, o.n.2.2.2.1, o.n.2.2.2.2.1, o.n.2.2.2.2.2.1, o.n.2.2.2.2.2.2.1, o.n.2.2.2.2.2.2.2.1, o.n.2.2.2.2.2.2.2.2.1, o.n.2.2.2.2.2.2.2.2.2), o.bA, o.bc, o.b, o.has, o.st, o.eA, o.ec, o.es, o.kA, o.kc, o.chk⟩ : Ma).data = false := not_right (fun hh => by have h := right_facts hh; dsimp only at h; omega)
theorem lim_b (o : Ma) : rightM (⟨(o.n.1, 7, o.n.2.2.1, o.n.2.2.2.1, o.n.2.2.2.2.1, o.n.2.2.2.2.2.1, o.n.2.2.2.2.2.2.1, o.n.2.2.2.2.2.2.2.1, o.n.2.2.2.2.2.2.2.2.1, o.n.2.2.2.2.2.2.2.2.2), o.bA, o.bc, o.b, o.has, o.st, o.eA, o.ec, o.es, o.kA, o.kc, o.chk⟩ : Ma).data = false := not_right (fun hh => by have h := right_facts hh; dsimp only at h; omega)
theorem lim_c (o : Ma) : rightM (⟨(o.n.1, o.n.2.1, -2, o.n.2.2.2.1, o.n.2.2.2.2.1, o.n.2.2.2.2.2.1, o.n.2.2.2.2.2.2.1, o.n.2.2.2.2.2.2.2.1, o.n.2.2.2.2.2.2.2.2.1, o.n.2.2.2.2.2.2.2.2.2), o.bA, o.bc, o.b, o.has, o.st, o.eA, o.ec, o.es, o.kA, o.kc, o.chk⟩ : Ma).data = false := not_right (fun hh => by have h := right_facts hh; dsimp only at h; omega)
theorem lim_d (o : Ma) : rightM (⟨(o.n.1, o.n.2.1, o.n.2.2.1, 1099511627777, o.n.2.2.2.2.1, o.n.2.2.2.2.2.1, o.n.2.2.2.2.2.2.1, o.n.2.2.2.2.2.2.2.1, o.n.2.2.2.2.2.2.2.2.1, o.n.2.2.2.2.2.2.2.2.2), o.bA, o.bc, o.b, o.has, o.st, o.eA, o.ec, o.es, o.kA, o.kc, o.chk⟩ : Ma).data = false := not_right (fun hh => by have h := right_facts hh; dsimp only at h; omega)
theorem lim_e (o : Ma) : rightM (⟨(o.n.1, o.n.2.1, o.n.2.2.1, o.n.2.2.2.1, -1, o.n.2.2.2.2.2.1, o.n.2.2.2.2.2.2.1, o.n.2.2.2.2.2.2.2.1, o.n.2.2.2.2.2.2.2.2.1, o.n.2.2.2.2.2.2.2.2.2), o.bA, o.bc, o.b, o.has, o.st, o.eA, o.ec, o.es, o.kA, o.kc, o.chk⟩ : Ma).data = false := not_right (fun hh => by have h := right_facts hh; dsimp only at h; omega)
theorem lim_f (o : Ma) (A : Option Addr) (l : List UInt8) (hl : l.length = 8193) : rightM (⟨o.n, A, 8193, l, o.has, o.st, o.eA, o.ec, o.es, o.kA, o.kc, o.chk⟩ : Ma).data = false := not_right (fun hh => by have h := right_facts hh; dsimp only at h; omega)
theorem lim_g (o : Ma) (A : Option Addr) (l : List UInt8) (hl : l.length = 65537) : rightM (⟨o.n, o.bA, o.bc, o.b, o.has, o.st, o.eA, o.ec, o.es, A, 65537, l⟩ : Ma).data = false := not_right (fun hh => by have h := right_facts hh; dsimp only at h; omega)
theorem lim_h (o : Ma) (A : Option Addr) (l : List En) (hl : l.length = 65) : rightM (⟨o.n, o.bA, o.bc, o.b, o.has, o.st, A, 65, l, o.kA, o.kc, o.chk⟩ : Ma).data = false := not_right (fun hh => by have h := right_facts hh; dsimp only at h; omega)
set_option maxRecDepth 100000 in
set_option maxHeartbeats 25600000 in
theorem limits_law (o : Ma) {w : World} (ho : MaRd w o) (_io : intM o.data) (ht : Tab w) :
    Calls Tryd.prog 8 #[o.val] w fun e w' => e = .returned (.bool true) ∧ Below w.heap.size w w' := by
  have hov : o.val = .agg #[.int .i64 o.n.1, .int .i64 o.n.2.1, .int .i64 o.n.2.2.1, .int .i64 o.n.2.2.2.1, .int .i64 o.n.2.2.2.2.1, .int .i64 o.n.2.2.2.2.2.1, .int .i64 o.n.2.2.2.2.2.2.1, .int .i64 o.n.2.2.2.2.2.2.2.1, .int .i64 o.n.2.2.2.2.2.2.2.2.1, .int .i64 o.n.2.2.2.2.2.2.2.2.2, .slice o.bA o.b.length o.bc, .bool o.has, .int .i64 o.st, .slice o.eA o.es.length o.ec, .slice o.kA o.chk.length o.kc] := rfl
  have KG := great_any o
  have KP := fun W (hW : MaRd W o) (tW : Tab W) => putmsg_any o hW tW
  have KR := fun W (hW : MaRd W o) => pright_any hW
  rw [hov] at KG KP KR
  rw [hov]
  clear hov
  have b0 := below_alloc w (.cells #[.int .i64 o.n.1, .int .i64 o.n.2.1, .int .i64 o.n.2.2.1, .int .i64 o.n.2.2.2.1, .int .i64 o.n.2.2.2.2.1, .int .i64 o.n.2.2.2.2.2.1, .int .i64 o.n.2.2.2.2.2.2.1, .int .i64 o.n.2.2.2.2.2.2.2.1, .int .i64 o.n.2.2.2.2.2.2.2.2.1, .int .i64 o.n.2.2.2.2.2.2.2.2.2, .slice o.bA o.b.length o.bc, .bool o.has, .int .i64 o.st, .slice o.eA o.es.length o.ec, .slice o.kA o.chk.length o.kc] 28)
  have R0 := Row.new w [.int .i64 o.n.1, .int .i64 o.n.2.1, .int .i64 o.n.2.2.1, .int .i64 o.n.2.2.2.1, .int .i64 o.n.2.2.2.2.1, .int .i64 o.n.2.2.2.2.2.1, .int .i64 o.n.2.2.2.2.2.2.1, .int .i64 o.n.2.2.2.2.2.2.2.1, .int .i64 o.n.2.2.2.2.2.2.2.2.1, .int .i64 o.n.2.2.2.2.2.2.2.2.2, .slice o.bA o.b.length o.bc, .bool o.has, .int .i64 o.st, .slice o.eA o.es.length o.ec, .slice o.kA o.chk.length o.kc] 28
  obtain ⟨gr, hgr⟩ : ∃ g, greatB o = g := ⟨_, rfl⟩
  rw [hgr] at KG
  replace hgr := hid hgr
  replace KG := hid KG
  replace KP := hid KP
  replace KR := hid KR
  go_enter Tryd.func8, Tryd.ntmps8
  go_upto_region 1 with fail
  change Row (w.alloc (.cells #[.int .i64 o.n.1, .int .i64 o.n.2.1, .int .i64 o.n.2.2.1, .int .i64 o.n.2.2.2.1, .int .i64 o.n.2.2.2.2.1, .int .i64 o.n.2.2.2.2.2.1, .int .i64 o.n.2.2.2.2.2.2.1, .int .i64 o.n.2.2.2.2.2.2.2.1, .int .i64 o.n.2.2.2.2.2.2.2.2.1, .int .i64 o.n.2.2.2.2.2.2.2.2.2, .slice o.bA o.b.length o.bc, .bool o.has, .int .i64 o.st, .slice o.eA o.es.length o.ec, .slice o.kA o.chk.length o.kc] 28)) _ _ at R0
  generalize w.alloc (.cells #[.int .i64 o.n.1, .int .i64 o.n.2.1, .int .i64 o.n.2.2.1, .int .i64 o.n.2.2.2.1, .int .i64 o.n.2.2.2.2.1, .int .i64 o.n.2.2.2.2.2.1, .int .i64 o.n.2.2.2.2.2.2.1, .int .i64 o.n.2.2.2.2.2.2.2.1, .int .i64 o.n.2.2.2.2.2.2.2.2.1, .int .i64 o.n.2.2.2.2.2.2.2.2.2, .slice o.bA o.b.length o.bc, .bool o.has, .int .i64 o.st, .slice o.eA o.es.length o.ec, .slice o.kA o.chk.length o.kc] 28) = w1 at b0 R0 ⊢
  replace ho := ho.below b0
  replace ht := ht.below b0
  go_wp2_with fail
  refine (head_any w1 ht).mono ?_
  rintro e w2 ⟨rfl, hb⟩
  replace b0 := below_step b0 hb
  replace R0 := R0.below hb
  replace ho := ho.below hb
  replace ht := ht.below hb
  have C0 := (R0.2 0 _ rfl).1
  have C1 := (R0.2 1 _ rfl).1
  have C2 := (R0.2 2 _ rfl).1
  have C3 := (R0.2 3 _ rfl).1
  have C4 := (R0.2 4 _ rfl).1
  have C5 := (R0.2 5 _ rfl).1
  have C6 := (R0.2 6 _ rfl).1
  have C7 := (R0.2 7 _ rfl).1
  have C8 := (R0.2 8 _ rfl).1
  have C9 := (R0.2 9 _ rfl).1
  have C10 := (R0.2 10 _ rfl).1
  have C11 := (R0.2 11 _ rfl).1
  have C12 := (R0.2 12 _ rfl).1
  have C13 := (R0.2 13 _ rfl).1
  have C14 := (R0.2 14 _ rfl).1
  go_wp2_with fail
  refine (KG.out w2).mono ?_
  rintro e w3 ⟨rfl, hb⟩
  clear C0 C1 C2 C3 C4 C5 C6 C7 C8 C9 C10 C11 C12 C13 C14
  replace b0 := below_step b0 hb
  replace R0 := R0.below hb
  replace ho := ho.below hb
  replace ht := ht.below hb
  clear KG
  cases gr
  case true =>
    go_wp2_with fail
    go_ret
    exact ⟨rfl, b0⟩
  obtain ⟨g1, g2, g3⟩ := greatB_no hgr.out
  have C0 := (R0.2 0 _ rfl).1
  have C1 := (R0.2 1 _ rfl).1
  have C2 := (R0.2 2 _ rfl).1
  have C3 := (R0.2 3 _ rfl).1
  have C4 := (R0.2 4 _ rfl).1
  have C5 := (R0.2 5 _ rfl).1
  have C6 := (R0.2 6 _ rfl).1
  have C7 := (R0.2 7 _ rfl).1
  have C8 := (R0.2 8 _ rfl).1
  have C9 := (R0.2 9 _ rfl).1
  have C10 := (R0.2 10 _ rfl).1
  have C11 := (R0.2 11 _ rfl).1
  have C12 := (R0.2 12 _ rfl).1
  have C13 := (R0.2 13 _ rfl).1
  have C14 := (R0.2 14 _ rfl).1
  go_wp2_with fail
  refine (KR.out w3 ho).mono ?_
  rintro e w5 ⟨rfl, hb5⟩
  replace b0 := below_step b0 hb5
  clear C0 C1 C2 C3 C4 C5 C6 C7 C8 C9 C10 C11 C12 C13 C14
  replace R0 := R0.below hb5
  replace ho := ho.below hb5
  cases hR : rightM o.data
  case false =>
    go_wp2_with fail
    go_ret
    exact ⟨rfl, b0⟩
  replace hR := hid hR
  clear KR KP hb hb5 ht
  replace R0 := hid R0
  replace ho := hid ho
  as_aux_lemma =>
  have bx := below_setCells (below_alloc w5 (.cells #[.int .i64 0, .int .i64 0, .int .i64 0, .int .i64 0, .int .i64 0, .int .i64 0, .int .i64 0, .int .i64 0, .int .i64 0, .int .i64 0, .slice none 0 0, .bool false, .int .i64 0, .slice none 0 0, .slice none 0 0] 28)) (Nat.le_refl _) [.int .i64 o.n.1, .int .i64 o.n.2.1, .int .i64 o.n.2.2.1, .int .i64 o.n.2.2.2.1, .int .i64 o.n.2.2.2.2.1, .int .i64 o.n.2.2.2.2.2.1, .int .i64 o.n.2.2.2.2.2.2.1, .int .i64 o.n.2.2.2.2.2.2.2.1, .int .i64 o.n.2.2.2.2.2.2.2.2.1, .int .i64 o.n.2.2.2.2.2.2.2.2.2, .slice o.bA o.b.length o.bc, .bool o.has, .int .i64 o.st, .slice o.eA o.es.length o.ec, .slice o.kA o.chk.length o.kc]
  have Za := Row.new w5 [.int .i64 0, .int .i64 0, .int .i64 0, .int .i64 0, .int .i64 0, .int .i64 0, .int .i64 0, .int .i64 0, .int .i64 0, .int .i64 0, .slice none 0 0, .bool false, .int .i64 0, .slice none 0 0, .slice none 0 0] 28
  have Va := Za.setCells (us := [.int .i64 o.n.1, .int .i64 o.n.2.1, .int .i64 o.n.2.2.1, .int .i64 o.n.2.2.2.1, .int .i64 o.n.2.2.2.2.1, .int .i64 o.n.2.2.2.2.2.1, .int .i64 o.n.2.2.2.2.2.2.1, .int .i64 o.n.2.2.2.2.2.2.2.1, .int .i64 o.n.2.2.2.2.2.2.2.2.1, .int .i64 o.n.2.2.2.2.2.2.2.2.2, .slice o.bA o.b.length o.bc, .bool o.has, .int .i64 o.st, .slice o.eA o.es.length o.ec, .slice o.kA o.chk.length o.kc]) rfl
  replace bx := hid bx
  replace Va := hid Va
  go_upto_region 5 with (first | (refine wpList_load_lit w.heap.size [.int .i64 o.n.1, .int .i64 o.n.2.1, .int .i64 o.n.2.2.1, .int .i64 o.n.2.2.2.1, .int .i64 o.n.2.2.2.2.1, .int .i64 o.n.2.2.2.2.2.1, .int .i64 o.n.2.2.2.2.2.2.1, .int .i64 o.n.2.2.2.2.2.2.2.1, .int .i64 o.n.2.2.2.2.2.2.2.2.1, .int .i64 o.n.2.2.2.2.2.2.2.2.2, .slice o.bA o.b.length o.bc, .bool o.has, .int .i64 o.st, .slice o.eA o.es.length o.ec, .slice o.kA o.chk.length o.kc] ?_ ?_ Tryd.underlying28 rfl (by kernel_rfl) ?_; (· rfl); (· exact R0.out)) | (refine wpList_store_lit w5.heap.size [.int .i64 o.n.1, .int .i64 o.n.2.1, .int .i64 o.n.2.2.1, .int .i64 o.n.2.2.2.1, .int .i64 o.n.2.2.2.2.1, .int .i64 o.n.2.2.2.2.2.1, .int .i64 o.n.2.2.2.2.2.2.1, .int .i64 o.n.2.2.2.2.2.2.2.1, .int .i64 o.n.2.2.2.2.2.2.2.2.1, .int .i64 o.n.2.2.2.2.2.2.2.2.2, .slice o.bA o.b.length o.bc, .bool o.has, .int .i64 o.st, .slice o.eA o.es.length o.ec, .slice o.kA o.chk.length o.kc] [.int .i64 0, .int .i64 0, .int .i64 0, .int .i64 0, .int .i64 0, .int .i64 0, .int .i64 0, .int .i64 0, .int .i64 0, .int .i64 0, .slice none 0 0, .bool false, .int .i64 0, .slice none 0 0, .slice none 0 0] ?_ ?_ ?_ rfl (by kernel_rfl) rfl ?_; (· rfl); (· rfl); (· exact Za)))
  replace bx := bx.out
  replace Va := Va.out
  clear Za
  have zx : w5.heap.size < ((w5.alloc (.cells #[.int .i64 0, .int .i64 0, .int .i64 0, .int .i64 0, .int .i64 0, .int .i64 0, .int .i64 0, .int .i64 0, .int .i64 0, .int .i64 0, .slice none 0 0, .bool false, .int .i64 0, .slice none 0 0, .slice none 0 0] 28)).setCells w5.heap.size 0 [.int .i64 o.n.1, .int .i64 o.n.2.1, .int .i64 o.n.2.2.1, .int .i64 o.n.2.2.2.1, .int .i64 o.n.2.2.2.2.1, .int .i64 o.n.2.2.2.2.2.1, .int .i64 o.n.2.2.2.2.2.2.1, .int .i64 o.n.2.2.2.2.2.2.2.1, .int .i64 o.n.2.2.2.2.2.2.2.2.1, .int .i64 o.n.2.2.2.2.2.2.2.2.2, .slice o.bA o.b.length o.bc, .bool o.has, .int .i64 o.st, .slice o.eA o.es.length o.ec, .slice o.kA o.chk.length o.kc]).heap.size := Va.1
  generalize World.setCells _ _ _ _ = wa0 at bx Va zx ⊢
  replace bx := hid bx
  replace Va := hid Va
  go_upto_region 6 with (refine wpList_store_cell w5.heap.size 0 (.int .i64 13) [.int .i64 o.n.1, .int .i64 o.n.2.1, .int .i64 o.n.2.2.1, .int .i64 o.n.2.2.2.1, .int .i64 o.n.2.2.2.2.1, .int .i64 o.n.2.2.2.2.2.1, .int .i64 o.n.2.2.2.2.2.2.1, .int .i64 o.n.2.2.2.2.2.2.2.1, .int .i64 o.n.2.2.2.2.2.2.2.2.1, .int .i64 o.n.2.2.2.2.2.2.2.2.2, .slice o.bA o.b.length o.bc, .bool o.has, .int .i64 o.st, .slice o.eA o.es.length o.ec, .slice o.kA o.chk.length o.kc] ?_ ?_ ?_ (by simp) (by kernel_rfl) rfl rfl ?_; (· rfl); (· rfl); (· exact Va.out))
  replace bx := bx.out
  replace Va := Va.out
  clear zx
  replace Va := Va.set 0 (by simp) (.int .i64 13)
  replace bx := bx.setCell (p := ⟨w5.heap.size, 0, none⟩) (Nat.le_refl _) (.int .i64 13)
  simp only [List.set_cons_zero] at Va
  generalize World.setCell _ _ _ = wa at bx Va ⊢
  replace R0 := hid (R0.out.below bx)
  replace b0 := below_step b0 bx
  replace ho := hid (ho.out.below bx)
  clear bx
  replace Va := hid Va
  as_aux_lemma =>
  have bx := below_setCells (below_alloc wa (.cells #[.int .i64 0, .int .i64 0, .int .i64 0, .int .i64 0, .int .i64 0, .int .i64 0, .int .i64 0, .int .i64 0, .int .i64 0, .int .i64 0, .slice none 0 0, .bool false, .int .i64 0, .slice none 0 0, .slice none 0 0] 28)) (Nat.le_refl _) [.int .i64 o.n.1, .int .i64 o.n.2.1, .int .i64 o.n.2.2.1, .int .i64 o.n.2.2.2.1, .int .i64 o.n.2.2.2.2.1, .int .i64 o.n.2.2.2.2.2.1, .int .i64 o.n.2.2.2.2.2.2.1, .int .i64 o.n.2.2.2.2.2.2.2.1, .int .i64 o.n.2.2.2.2.2.2.2.2.1, .int .i64 o.n.2.2.2.2.2.2.2.2.2, .slice o.bA o.b.length o.bc, .bool o.has, .int .i64 o.st, .slice o.eA o.es.length o.ec, .slice o.kA o.chk.length o.kc]
  have Zb := Row.new wa [.int .i64 0, .int .i64 0, .int .i64 0, .int .i64 0, .int .i64 0, .int .i64 0, .int .i64 0, .int .i64 0, .int .i64 0, .int .i64 0, .slice none 0 0, .bool false, .int .i64 0, .slice none 0 0, .slice none 0 0] 28
  have Vb := Zb.setCells (us := [.int .i64 o.n.1, .int .i64 o.n.2.1, .int .i64 o.n.2.2.1, .int .i64 o.n.2.2.2.1, .int .i64 o.n.2.2.2.2.1, .int .i64 o.n.2.2.2.2.2.1, .int .i64 o.n.2.2.2.2.2.2.1, .int .i64 o.n.2.2.2.2.2.2.2.1, .int .i64 o.n.2.2.2.2.2.2.2.2.1, .int .i64 o.n.2.2.2.2.2.2.2.2.2, .slice o.bA o.b.length o.bc, .bool o.has, .int .i64 o.st, .slice o.eA o.es.length o.ec, .slice o.kA o.chk.length o.kc]) rfl
  replace bx := hid bx
  replace Vb := hid Vb
  go_upto_region 7 with (first | (refine wpList_load_lit w.heap.size [.int .i64 o.n.1, .int .i64 o.n.2.1, .int .i64 o.n.2.2.1, .int .i64 o.n.2.2.2.1, .int .i64 o.n.2.2.2.2.1, .int .i64 o.n.2.2.2.2.2.1, .int .i64 o.n.2.2.2.2.2.2.1, .int .i64 o.n.2.2.2.2.2.2.2.1, .int .i64 o.n.2.2.2.2.2.2.2.2.1, .int .i64 o.n.2.2.2.2.2.2.2.2.2, .slice o.bA o.b.length o.bc, .bool o.has, .int .i64 o.st, .slice o.eA o.es.length o.ec, .slice o.kA o.chk.length o.kc] ?_ ?_ Tryd.underlying28 rfl (by kernel_rfl) ?_; (· rfl); (· exact R0.out)) | (refine wpList_store_lit wa.heap.size [.int .i64 o.n.1, .int .i64 o.n.2.1, .int .i64 o.n.2.2.1, .int .i64 o.n.2.2.2.1, .int .i64 o.n.2.2.2.2.1, .int .i64 o.n.2.2.2.2.2.1, .int .i64 o.n.2.2.2.2.2.2.1, .int .i64 o.n.2.2.2.2.2.2.2.1, .int .i64 o.n.2.2.2.2.2.2.2.2.1, .int .i64 o.n.2.2.2.2.2.2.2.2.2, .slice o.bA o.b.length o.bc, .bool o.has, .int .i64 o.st, .slice o.eA o.es.length o.ec, .slice o.kA o.chk.length o.kc] [.int .i64 0, .int .i64 0, .int .i64 0, .int .i64 0, .int .i64 0, .int .i64 0, .int .i64 0, .int .i64 0, .int .i64 0, .int .i64 0, .slice none 0 0, .bool false, .int .i64 0, .slice none 0 0, .slice none 0 0] ?_ ?_ ?_ rfl (by kernel_rfl) rfl ?_; (· rfl); (· rfl); (· exact Zb)))
  replace bx := bx.out
  replace Vb := Vb.out
  clear Zb
  have zx : wa.heap.size < ((wa.alloc (.cells #[.int .i64 0, .int .i64 0, .int .i64 0, .int .i64 0, .int .i64 0, .int .i64 0, .int .i64 0, .int .i64 0, .int .i64 0, .int .i64 0, .slice none 0 0, .bool false, .int .i64 0, .slice none 0 0, .slice none 0 0] 28)).setCells wa.heap.size 0 [.int .i64 o.n.1, .int .i64 o.n.2.1, .int .i64 o.n.2.2.1, .int .i64 o.n.2.2.2.1, .int .i64 o.n.2.2.2.2.1, .int .i64 o.n.2.2.2.2.2.1, .int .i64 o.n.2.2.2.2.2.2.1, .int .i64 o.n.2.2.2.2.2.2.2.1, .int .i64 o.n.2.2.2.2.2.2.2.2.1, .int .i64 o.n.2.2.2.2.2.2.2.2.2, .slice o.bA o.b.length o.bc, .bool o.has, .int .i64 o.st, .slice o.eA o.es.length o.ec, .slice o.kA o.chk.length o.kc]).heap.size := Vb.1
  generalize World.setCells _ _ _ _ = wb0 at bx Vb zx ⊢
  replace bx := hid bx
  replace Vb := hid Vb
  go_upto_region 8 with (refine wpList_store_cell wa.heap.size 1 (.int .i64 7) [.int .i64 o.n.1, .int .i64 o.n.2.1, .int .i64 o.n.2.2.1, .int .i64 o.n.2.2.2.1, .int .i64 o.n.2.2.2.2.1, .int .i64 o.n.2.2.2.2.2.1, .int .i64 o.n.2.2.2.2.2.2.1, .int .i64 o.n.2.2.2.2.2.2.2.1, .int .i64 o.n.2.2.2.2.2.2.2.2.1, .int .i64 o.n.2.2.2.2.2.2.2.2.2, .slice o.bA o.b.length o.bc, .bool o.has, .int .i64 o.st, .slice o.eA o.es.length o.ec, .slice o.kA o.chk.length o.kc] ?_ ?_ ?_ (by simp) (by kernel_rfl) rfl rfl ?_; (· rfl); (· rfl); (· exact Vb.out))
  replace bx := bx.out
  replace Vb := Vb.out
  clear zx
  replace Vb := Vb.set 1 (by simp) (.int .i64 7)
  replace bx := bx.setCell (p := ⟨wa.heap.size, 1, none⟩) (Nat.le_refl _) (.int .i64 7)
  simp only [List.set_cons_zero, List.set_cons_succ] at Vb
  generalize World.setCell _ _ _ = wb at bx Vb ⊢
  replace R0 := hid (R0.out.below bx)
  replace Va := hid (Va.out.below bx)
  replace b0 := below_step b0 bx
  replace ho := hid (ho.out.below bx)
  clear bx
  replace Vb := hid Vb
  as_aux_lemma =>
  have bx := below_setCells (below_alloc wb (.cells #[.int .i64 0, .int .i64 0, .int .i64 0, .int .i64 0, .int .i64 0, .int .i64 0, .int .i64 0, .int .i64 0, .int .i64 0, .int .i64 0, .slice none 0 0, .bool false, .int .i64 0, .slice none 0 0, .slice none 0 0] 28)) (Nat.le_refl _) [.int .i64 o.n.1, .int .i64 o.n.2.1, .int .i64 o.n.2.2.1, .int .i64 o.n.2.2.2.1, .int .i64 o.n.2.2.2.2.1, .int .i64 o.n.2.2.2.2.2.1, .int .i64 o.n.2.2.2.2.2.2.1, .int .i64 o.n.2.2.2.2.2.2.2.1, .int .i64 o.n.2.2.2.2.2.2.2.2.1, .int .i64 o.n.2.2.2.2.2.2.2.2.2, .slice o.bA o.b.length o.bc, .bool o.has, .int .i64 o.st, .slice o.eA o.es.length o.ec, .slice o.kA o.chk.length o.kc]
  have Zc := Row.new wb [.int .i64 0, .int .i64 0, .int .i64 0, .int .i64 0, .int .i64 0, .int .i64 0, .int .i64 0, .int .i64 0, .int .i64 0, .int .i64 0, .slice none 0 0, .bool false, .int .i64 0, .slice none 0 0, .slice none 0 0] 28
  have Vc := Zc.setCells (us := [.int .i64 o.n.1, .int .i64 o.n.2.1, .int .i64 o.n.2.2.1, .int .i64 o.n.2.2.2.1, .int .i64 o.n.2.2.2.2.1, .int .i64 o.n.2.2.2.2.2.1, .int .i64 o.n.2.2.2.2.2.2.1, .int .i64 o.n.2.2.2.2.2.2.2.1, .int .i64 o.n.2.2.2.2.2.2.2.2.1, .int .i64 o.n.2.2.2.2.2.2.2.2.2, .slice o.bA o.b.length o.bc, .bool o.has, .int .i64 o.st, .slice o.eA o.es.length o.ec, .slice o.kA o.chk.length o.kc]) rfl
  replace bx := hid bx
  replace Vc := hid Vc
  go_upto_region 9 with (first | (refine wpList_load_lit w.heap.size [.int .i64 o.n.1, .int .i64 o.n.2.1, .int .i64 o.n.2.2.1, .int .i64 o.n.2.2.2.1, .int .i64 o.n.2.2.2.2.1, .int .i64 o.n.2.2.2.2.2.1, .int .i64 o.n.2.2.2.2.2.2.1, .int .i64 o.n.2.2.2.2.2.2.2.1, .int .i64 o.n.2.2.2.2.2.2.2.2.1, .int .i64 o.n.2.2.2.2.2.2.2.2.2, .slice o.bA o.b.length o.bc, .bool o.has, .int .i64 o.st, .slice o.eA o.es.length o.ec, .slice o.kA o.chk.length o.kc] ?_ ?_ Tryd.underlying28 rfl (by kernel_rfl) ?_; (· rfl); (· exact R0.out)) | (refine wpList_store_lit wb.heap.size [.int .i64 o.n.1, .int .i64 o.n.2.1, .int .i64 o.n.2.2.1, .int .i64 o.n.2.2.2.1, .int .i64 o.n.2.2.2.2.1, .int .i64 o.n.2.2.2.2.2.1, .int .i64 o.n.2.2.2.2.2.2.1, .int .i64 o.n.2.2.2.2.2.2.2.1, .int .i64 o.n.2.2.2.2.2.2.2.2.1, .int .i64 o.n.2.2.2.2.2.2.2.2.2, .slice o.bA o.b.length o.bc, .bool o.has, .int .i64 o.st, .slice o.eA o.es.length o.ec, .slice o.kA o.chk.length o.kc] [.int .i64 0, .int .i64 0, .int .i64 0, .int .i64 0, .int .i64 0, .int .i64 0, .int .i64 0, .int .i64 0, .int .i64 0, .int .i64 0, .slice none 0 0, .bool false, .int .i64 0, .slice none 0 0, .slice none 0 0] ?_ ?_ ?_ rfl (by kernel_rfl) rfl ?_; (· rfl); (· rfl); (· exact Zc)))
  replace bx := bx.out
  replace Vc := Vc.out
  clear Zc
  have zx : wb.heap.size < ((wb.alloc (.cells #[.int .i64 0, .int .i64 0, .int .i64 0, .int .i64 0, .int .i64 0, .int .i64 0, .int .i64 0, .int .i64 0, .int .i64 0, .int .i64 0, .slice none 0 0, .bool false, .int .i64 0, .slice none 0 0, .slice none 0 0] 28)).setCells wb.heap.size 0 [.int .i64 o.n.1, .int .i64 o.n.2.1, .int .i64 o.n.2.2.1, .int .i64 o.n.2.2.2.1, .int .i64 o.n.2.2.2.2.1, .int .i64 o.n.2.2.2.2.2.1, .int .i64 o.n.2.2.2.2.2.2.1, .int .i64 o.n.2.2.2.2.2.2.2.1, .int .i64 o.n.2.2.2.2.2.2.2.2.1, .int .i64 o.n.2.2.2.2.2.2.2.2.2, .slice o.bA o.b.length o.bc, .bool o.has, .int .i64 o.st, .slice o.eA o.es.length o.ec, .slice o.kA o.chk.length o.kc]).heap.size := Vc.1
  generalize World.setCells _ _ _ _ = wc0 at bx Vc zx ⊢
  replace bx := hid bx
  replace Vc := hid Vc
  go_upto_region 10 with (refine wpList_store_cell wb.heap.size 2 (.int .i64 (-2)) [.int .i64 o.n.1, .int .i64 o.n.2.1, .int .i64 o.n.2.2.1, .int .i64 o.n.2.2.2.1, .int .i64 o.n.2.2.2.2.1, .int .i64 o.n.2.2.2.2.2.1, .int .i64 o.n.2.2.2.2.2.2.1, .int .i64 o.n.2.2.2.2.2.2.2.1, .int .i64 o.n.2.2.2.2.2.2.2.2.1, .int .i64 o.n.2.2.2.2.2.2.2.2.2, .slice o.bA o.b.length o.bc, .bool o.has, .int .i64 o.st, .slice o.eA o.es.length o.ec, .slice o.kA o.chk.length o.kc] ?_ ?_ ?_ (by simp) (by kernel_rfl) rfl rfl ?_; (· rfl); (· rfl); (· exact Vc.out))
  replace bx := bx.out
  replace Vc := Vc.out
  clear zx
  replace Vc := Vc.set 2 (by simp) (.int .i64 (-2))
  replace bx := bx.setCell (p := ⟨wb.heap.size, 2, none⟩) (Nat.le_refl _) (.int .i64 (-2))
  simp only [List.set_cons_zero, List.set_cons_succ] at Vc
  generalize World.setCell _ _ _ = wc at bx Vc ⊢
  replace R0 := hid (R0.out.below bx)
  replace Va := hid (Va.out.below bx)
  replace Vb := hid (Vb.out.below bx)
  replace b0 := below_step b0 bx
  replace ho := hid (ho.out.below bx)
  clear bx
  replace Vc := hid Vc
  as_aux_lemma =>
  have bx := below_setCells (below_alloc wc (.cells #[.int .i64 0, .int .i64 0, .int .i64 0, .int .i64 0, .int .i64 0, .int .i64 0, .int .i64 0, .int .i64 0, .int .i64 0, .int .i64 0, .slice none 0 0, .bool false, .int .i64 0, .slice none 0 0, .slice none 0 0] 28)) (Nat.le_refl _) [.int .i64 o.n.1, .int .i64 o.n.2.1, .int .i64 o.n.2.2.1, .int .i64 o.n.2.2.2.1, .int .i64 o.n.2.2.2.2.1, .int .i64 o.n.2.2.2.2.2.1, .int .i64 o.n.2.2.2.2.2.2.1, .int .i64 o.n.2.2.2.2.2.2.2.1, .int .i64 o.n.2.2.2.2.2.2.2.2.1, .int .i64 o.n.2.2.2.2.2.2.2.2.2, .slice o.bA o.b.length o.bc, .bool o.has, .int .i64 o.st, .slice o.eA o.es.length o.ec, .slice o.kA o.chk.length o.kc]
  have Zd := Row.new wc [.int .i64 0, .int .i64 0, .int .i64 0, .int .i64 0, .int .i64 0, .int .i64 0, .int .i64 0, .int .i64 0, .int .i64 0, .int .i64 0, .slice none 0 0, .bool false, .int .i64 0, .slice none 0 0, .slice none 0 0] 28
  have Vd := Zd.setCells (us := [.int .i64 o.n.1, .int .i64 o.n.2.1, .int .i64 o.n.2.2.1, .int .i64 o.n.2.2.2.1, .int .i64 o.n.2.2.2.2.1, .int .i64 o.n.2.2.2.2.2.1, .int .i64 o.n.2.2.2.2.2.2.1, .int .i64 o.n.2.2.2.2.2.2.2.1, .int .i64 o.n.2.2.2.2.2.2.2.2.1, .int .i64 o.n.2.2.2.2.2.2.2.2.2, .slice o.bA o.b.length o.bc, .bool o.has, .int .i64 o.st, .slice o.eA o.es.length o.ec, .slice o.kA o.chk.length o.kc]) rfl
  replace bx := hid bx
  replace Vd := hid Vd
  go_upto_region 11 with (first | (refine wpList_load_lit w.heap.size [.int .i64 o.n.1, .int .i64 o.n.2.1, .int .i64 o.n.2.2.1, .int .i64 o.n.2.2.2.1, .int .i64 o.n.2.2.2.2.1, .int .i64 o.n.2.2.2.2.2.1, .int .i64 o.n.2.2.2.2.2.2.1, .int .i64 o.n.2.2.2.2.2.2.2.1, .int .i64 o.n.2.2.2.2.2.2.2.2.1, .int .i64 o.n.2.2.2.2.2.2.2.2.2, .slice o.bA o.b.length o.bc, .bool o.has, .int .i64 o.st, .slice o.eA o.es.length o.ec, .slice o.kA o.chk.length o.kc] ?_ ?_ Tryd.underlying28 rfl (by kernel_rfl) ?_; (· rfl); (· exact R0.out)) | (refine wpList_store_lit wc.heap.size [.int .i64 o.n.1, .int .i64 o.n.2.1, .int .i64 o.n.2.2.1, .int .i64 o.n.2.2.2.1, .int .i64 o.n.2.2.2.2.1, .int .i64 o.n.2.2.2.2.2.1, .int .i64 o.n.2.2.2.2.2.2.1, .int .i64 o.n.2.2.2.2.2.2.2.1, .int .i64 o.n.2.2.2.2.2.2.2.2.1, .int .i64 o.n.2.2.2.2.2.2.2.2.2, .slice o.bA o.b.length o.bc, .bool o.has, .int .i64 o.st, .slice o.eA o.es.length o.ec, .slice o.kA o.chk.length o.kc] [.int .i64 0, .int .i64 0, .int .i64 0, .int .i64 0, .int .i64 0, .int .i64 0, .int .i64 0, .int .i64 0, .int .i64 0, .int .i64 0, .slice none 0 0, .bool false, .int .i64 0, .slice none 0 0, .slice none 0 0] ?_ ?_ ?_ rfl (by kernel_rfl) rfl ?_; (· rfl); (· rfl); (· exact Zd)))
  replace bx := bx.out
  replace Vd := Vd.out
  clear Zd
  have zx : wc.heap.size < ((wc.alloc (.cells #[.int .i64 0, .int .i64 0, .int .i64 0, .int .i64 0, .int .i64 0, .int .i64 0, .int .i64 0, .int .i64 0, .int .i64 0, .int .i64 0, .slice none 0 0, .bool false, .int .i64 0, .slice none 0 0, .slice none 0 0] 28)).setCells wc.heap.size 0 [.int .i64 o.n.1, .int .i64 o.n.2.1, .int .i64 o.n.2.2.1, .int .i64 o.n.2.2.2.1, .int .i64 o.n.2.2.2.2.1, .int .i64 o.n.2.2.2.2.2.1, .int .i64 o.n.2.2.2.2.2.2.1, .int .i64 o.n.2.2.2.2.2.2.2.1, .int .i64 o.n.2.2.2.2.2.2.2.2.1, .int .i64 o.n.2.2.2.2.2.2.2.2.2, .slice o.bA o.b.length o.bc, .bool o.has, .int .i64 o.st, .slice o.eA o.es.length o.ec, .slice o.kA o.chk.length o.kc]).heap.size := Vd.1
  generalize World.setCells _ _ _ _ = wd0 at bx Vd zx ⊢
  replace bx := hid bx
  replace Vd := hid Vd
  go_upto_region 12 with (refine wpList_store_cell wc.heap.size 3 (.int .i64 1099511627777) [.int .i64 o.n.1, .int .i64 o.n.2.1, .int .i64 o.n.2.2.1, .int .i64 o.n.2.2.2.1, .int .i64 o.n.2.2.2.2.1, .int .i64 o.n.2.2.2.2.2.1, .int .i64 o.n.2.2.2.2.2.2.1, .int .i64 o.n.2.2.2.2.2.2.2.1, .int .i64 o.n.2.2.2.2.2.2.2.2.1, .int .i64 o.n.2.2.2.2.2.2.2.2.2, .slice o.bA o.b.length o.bc, .bool o.has, .int .i64 o.st, .slice o.eA o.es.length o.ec, .slice o.kA o.chk.length o.kc] ?_ ?_ ?_ (by simp) (by kernel_rfl) rfl rfl ?_; (· rfl); (· rfl); (· exact Vd.out))
  replace bx := bx.out
  replace Vd := Vd.out
  clear zx
  replace Vd := Vd.set 3 (by simp) (.int .i64 1099511627777)
  replace bx := bx.setCell (p := ⟨wc.heap.size, 3, none⟩) (Nat.le_refl _) (.int .i64 1099511627777)
  simp only [List.set_cons_zero, List.set_cons_succ] at Vd
  generalize World.setCell _ _ _ = wd at bx Vd ⊢
  replace R0 := hid (R0.out.below bx)
  replace Va := hid (Va.out.below bx)
  replace Vb := hid (Vb.out.below bx)
  replace Vc := hid (Vc.out.below bx)
  replace b0 := below_step b0 bx
  replace ho := hid (ho.out.below bx)
  clear bx
  replace Vd := hid Vd
  as_aux_lemma =>
  have bx := below_setCells (below_alloc wd (.cells #[.int .i64 0, .int .i64 0, .int .i64 0, .int .i64 0, .int .i64 0, .int .i64 0, .int .i64 0, .int .i64 0, .int .i64 0, .int .i64 0, .slice none 0 0, .bool false, .int .i64 0, .slice none 0 0, .slice none 0 0] 28)) (Nat.le_refl _) [.int .i64 o.n.1, .int .i64 o.n.2.1, .int .i64 o.n.2.2.1, .int .i64 o.n.2.2.2.1, .int .i64 o.n.2.2.2.2.1, .int .i64 o.n.2.2.2.2.2.1, .int .i64 o.n.2.2.2.2.2.2.1, .int .i64 o.n.2.2.2.2.2.2.2.1, .int .i64 o.n.2.2.2.2.2.2.2.2.1, .int .i64 o.n.2.2.2.2.2.2.2.2.2, .slice o.bA o.b.length o.bc, .bool o.has, .int .i64 o.st, .slice o.eA o.es.length o.ec, .slice o.kA o.chk.length o.kc]
  have Ze := Row.new wd [.int .i64 0, .int .i64 0, .int .i64 0, .int .i64 0, .int .i64 0, .int .i64 0, .int .i64 0, .int .i64 0, .int .i64 0, .int .i64 0, .slice none 0 0, .bool false, .int .i64 0, .slice none 0 0, .slice none 0 0] 28
  have Ve := Ze.setCells (us := [.int .i64 o.n.1, .int .i64 o.n.2.1, .int .i64 o.n.2.2.1, .int .i64 o.n.2.2.2.1, .int .i64 o.n.2.2.2.2.1, .int .i64 o.n.2.2.2.2.2.1, .int .i64 o.n.2.2.2.2.2.2.1, .int .i64 o.n.2.2.2.2.2.2.2.1, .int .i64 o.n.2.2.2.2.2.2.2.2.1, .int .i64 o.n.2.2.2.2.2.2.2.2.2, .slice o.bA o.b.length o.bc, .bool o.has, .int .i64 o.st, .slice o.eA o.es.length o.ec, .slice o.kA o.chk.length o.kc]) rfl
  replace bx := hid bx
  replace Ve := hid Ve
  go_upto_region 13 with (first | (refine wpList_load_lit w.heap.size [.int .i64 o.n.1, .int .i64 o.n.2.1, .int .i64 o.n.2.2.1, .int .i64 o.n.2.2.2.1, .int .i64 o.n.2.2.2.2.1, .int .i64 o.n.2.2.2.2.2.1, .int .i64 o.n.2.2.2.2.2.2.1, .int .i64 o.n.2.2.2.2.2.2.2.1, .int .i64 o.n.2.2.2.2.2.2.2.2.1, .int .i64 o.n.2.2.2.2.2.2.2.2.2, .slice o.bA o.b.length o.bc, .bool o.has, .int .i64 o.st, .slice o.eA o.es.length o.ec, .slice o.kA o.chk.length o.kc] ?_ ?_ Tryd.underlying28 rfl (by kernel_rfl) ?_; (· rfl); (· exact R0.out)) | (refine wpList_store_lit wd.heap.size [.int .i64 o.n.1, .int .i64 o.n.2.1, .int .i64 o.n.2.2.1, .int .i64 o.n.2.2.2.1, .int .i64 o.n.2.2.2.2.1, .int .i64 o.n.2.2.2.2.2.1, .int .i64 o.n.2.2.2.2.2.2.1, .int .i64 o.n.2.2.2.2.2.2.2.1, .int .i64 o.n.2.2.2.2.2.2.2.2.1, .int .i64 o.n.2.2.2.2.2.2.2.2.2, .slice o.bA o.b.length o.bc, .bool o.has, .int .i64 o.st, .slice o.eA o.es.length o.ec, .slice o.kA o.chk.length o.kc] [.int .i64 0, .int .i64 0, .int .i64 0, .int .i64 0, .int .i64 0, .int .i64 0, .int .i64 0, .int .i64 0, .int .i64 0, .int .i64 0, .slice none 0 0, .bool false, .int .i64 0, .slice none 0 0, .slice none 0 0] ?_ ?_ ?_ rfl (by kernel_rfl) rfl ?_; (· rfl); (· rfl); (· exact Ze)))
  replace bx := bx.out
  replace Ve := Ve.out
  clear Ze
  have zx : wd.heap.size < ((wd.alloc (.cells #[.int .i64 0, .int .i64 0, .int .i64 0, .int .i64 0, .int .i64 0, .int .i64 0, .int .i64 0, .int .i64 0, .int .i64 0, .int .i64 0, .slice none 0 0, .bool false, .int .i64 0, .slice none 0 0, .slice none 0 0] 28)).setCells wd.heap.size 0 [.int .i64 o.n.1, .int .i64 o.n.2.1, .int .i64 o.n.2.2.1, .int .i64 o.n.2.2.2.1, .int .i64 o.n.2.2.2.2.1, .int .i64 o.n.2.2.2.2.2.1, .int .i64 o.n.2.2.2.2.2.2.1, .int .i64 o.n.2.2.2.2.2.2.2.1, .int .i64 o.n.2.2.2.2.2.2.2.2.1, .int .i64 o.n.2.2.2.2.2.2.2.2.2, .slice o.bA o.b.length o.bc, .bool o.has, .int .i64 o.st, .slice o.eA o.es.length o.ec, .slice o.kA o.chk.length o.kc]).heap.size := Ve.1
  generalize World.setCells _ _ _ _ = we0 at bx Ve zx ⊢
  replace bx := hid bx
  replace Ve := hid Ve
  go_upto_region 14 with (refine wpList_store_cell wd.heap.size 4 (.int .i64 (-1)) [.int .i64 o.n.1, .int .i64 o.n.2.1, .int .i64 o.n.2.2.1, .int .i64 o.n.2.2.2.1, .int .i64 o.n.2.2.2.2.1, .int .i64 o.n.2.2.2.2.2.1, .int .i64 o.n.2.2.2.2.2.2.1, .int .i64 o.n.2.2.2.2.2.2.2.1, .int .i64 o.n.2.2.2.2.2.2.2.2.1, .int .i64 o.n.2.2.2.2.2.2.2.2.2, .slice o.bA o.b.length o.bc, .bool o.has, .int .i64 o.st, .slice o.eA o.es.length o.ec, .slice o.kA o.chk.length o.kc] ?_ ?_ ?_ (by simp) (by kernel_rfl) rfl rfl ?_; (· rfl); (· rfl); (· exact Ve.out))
  replace bx := bx.out
  replace Ve := Ve.out
  clear zx
  replace Ve := Ve.set 4 (by simp) (.int .i64 (-1))
  replace bx := bx.setCell (p := ⟨wd.heap.size, 4, none⟩) (Nat.le_refl _) (.int .i64 (-1))
  simp only [List.set_cons_zero, List.set_cons_succ] at Ve
  generalize World.setCell _ _ _ = we at bx Ve ⊢
  replace R0 := hid (R0.out.below bx)
  replace Va := hid (Va.out.below bx)
  replace Vb := hid (Vb.out.below bx)
  replace Vc := hid (Vc.out.below bx)
  replace Vd := hid (Vd.out.below bx)
  replace b0 := below_step b0 bx
  replace ho := hid (ho.out.below bx)
  clear bx
  replace Ve := hid Ve
  as_aux_lemma =>
  have bx := below_setCells (below_alloc we (.cells #[.int .i64 0, .int .i64 0, .int .i64 0, .int .i64 0, .int .i64 0, .int .i64 0, .int .i64 0, .int .i64 0, .int .i64 0, .int .i64 0, .slice none 0 0, .bool false, .int .i64 0, .slice none 0 0, .slice none 0 0] 28)) (Nat.le_refl _) [.int .i64 o.n.1, .int .i64 o.n.2.1, .int .i64 o.n.2.2.1, .int .i64 o.n.2.2.2.1, .int .i64 o.n.2.2.2.2.1, .int .i64 o.n.2.2.2.2.2.1, .int .i64 o.n.2.2.2.2.2.2.1, .int .i64 o.n.2.2.2.2.2.2.2.1, .int .i64 o.n.2.2.2.2.2.2.2.2.1, .int .i64 o.n.2.2.2.2.2.2.2.2.2, .slice o.bA o.b.length o.bc, .bool o.has, .int .i64 o.st, .slice o.eA o.es.length o.ec, .slice o.kA o.chk.length o.kc]
  have Zf := Row.new we [.int .i64 0, .int .i64 0, .int .i64 0, .int .i64 0, .int .i64 0, .int .i64 0, .int .i64 0, .int .i64 0, .int .i64 0, .int .i64 0, .slice none 0 0, .bool false, .int .i64 0, .slice none 0 0, .slice none 0 0] 28
  have Vf := Zf.setCells (us := [.int .i64 o.n.1, .int .i64 o.n.2.1, .int .i64 o.n.2.2.1, .int .i64 o.n.2.2.2.1, .int .i64 o.n.2.2.2.2.1, .int .i64 o.n.2.2.2.2.2.1, .int .i64 o.n.2.2.2.2.2.2.1, .int .i64 o.n.2.2.2.2.2.2.2.1, .int .i64 o.n.2.2.2.2.2.2.2.2.1, .int .i64 o.n.2.2.2.2.2.2.2.2.2, .slice o.bA o.b.length o.bc, .bool o.has, .int .i64 o.st, .slice o.eA o.es.length o.ec, .slice o.kA o.chk.length o.kc]) rfl
  replace bx := hid bx
  replace Vf := hid Vf
  go_upto_region 15 with (first | (refine wpList_load_lit w.heap.size [.int .i64 o.n.1, .int .i64 o.n.2.1, .int .i64 o.n.2.2.1, .int .i64 o.n.2.2.2.1, .int .i64 o.n.2.2.2.2.1, .int .i64 o.n.2.2.2.2.2.1, .int .i64 o.n.2.2.2.2.2.2.1, .int .i64 o.n.2.2.2.2.2.2.2.1, .int .i64 o.n.2.2.2.2.2.2.2.2.1, .int .i64 o.n.2.2.2.2.2.2.2.2.2, .slice o.bA o.b.length o.bc, .bool o.has, .int .i64 o.st, .slice o.eA o.es.length o.ec, .slice o.kA o.chk.length o.kc] ?_ ?_ Tryd.underlying28 rfl (by kernel_rfl) ?_; (· rfl); (· exact R0.out)) | (refine wpList_store_lit we.heap.size [.int .i64 o.n.1, .int .i64 o.n.2.1, .int .i64 o.n.2.2.1, .int .i64 o.n.2.2.2.1, .int .i64 o.n.2.2.2.2.1, .int .i64 o.n.2.2.2.2.2.1, .int .i64 o.n.2.2.2.2.2.2.1, .int .i64 o.n.2.2.2.2.2.2.2.1, .int .i64 o.n.2.2.2.2.2.2.2.2.1, .int .i64 o.n.2.2.2.2.2.2.2.2.2, .slice o.bA o.b.length o.bc, .bool o.has, .int .i64 o.st, .slice o.eA o.es.length o.ec, .slice o.kA o.chk.length o.kc] [.int .i64 0, .int .i64 0, .int .i64 0, .int .i64 0, .int .i64 0, .int .i64 0, .int .i64 0, .int .i64 0, .int .i64 0, .int .i64 0, .slice none 0 0, .bool false, .int .i64 0, .slice none 0 0, .slice none 0 0] ?_ ?_ ?_ rfl (by kernel_rfl) rfl ?_; (· rfl); (· rfl); (· exact Zf)))
  replace bx := bx.out
  replace Vf := Vf.out
  clear Zf
  have zx : we.heap.size < ((we.alloc (.cells #[.int .i64 0, .int .i64 0, .int .i64 0, .int .i64 0, .int .i64 0, .int .i64 0, .int .i64 0, .int .i64 0, .int .i64 0, .int .i64 0, .slice none 0 0, .bool false, .int .i64 0, .slice none 0 0, .slice none 0 0] 28)).setCells we.heap.size 0 [.int .i64 o.n.1, .int .i64 o.n.2.1, .int .i64 o.n.2.2.1, .int .i64 o.n.2.2.2.1, .int .i64 o.n.2.2.2.2.1, .int .i64 o.n.2.2.2.2.2.1, .int .i64 o.n.2.2.2.2.2.2.1, .int .i64 o.n.2.2.2.2.2.2.2.1, .int .i64 o.n.2.2.2.2.2.2.2.2.1, .int .i64 o.n.2.2.2.2.2.2.2.2.2, .slice o.bA o.b.length o.bc, .bool o.has, .int .i64 o.st, .slice o.eA o.es.length o.ec, .slice o.kA o.chk.length o.kc]).heap.size := Vf.1
  generalize World.setCells _ _ _ _ = wf0 at bx Vf zx ⊢
  go_upto_region 16 with (first | (refine wpList_store_cell we.heap.size 10 (.slice (some ⟨wf0.heap.size, 0, none⟩) 8193 8193) [.int .i64 o.n.1, .int .i64 o.n.2.1, .int .i64 o.n.2.2.1, .int .i64 o.n.2.2.2.1, .int .i64 o.n.2.2.2.2.1, .int .i64 o.n.2.2.2.2.2.1, .int .i64 o.n.2.2.2.2.2.2.1, .int .i64 o.n.2.2.2.2.2.2.2.1, .int .i64 o.n.2.2.2.2.2.2.2.2.1, .int .i64 o.n.2.2.2.2.2.2.2.2.2, .slice o.bA o.b.length o.bc, .bool o.has, .int .i64 o.st, .slice o.eA o.es.length o.ec, .slice o.kA o.chk.length o.kc] ?_ ?_ ?_ (by simp) (by kernel_rfl) rfl rfl ?_; (· rfl); (· rfl); (· exact Vf)) | (at_make; refine wpList_mkn rfl (.const (.int .i64 8193)) (.const (.int .i64 8193)) 23 rfl wf0.heap.size 5 Tryd.underlying23 infoB 8193 rfl rfl rfl rfl (by omega) (by omega) (Nat.le_refl _) ?_; intro wm ownm hgm; have bm := below_of_grown hgm; replace Vf := Vf.below bm))
  have be := (below_step bx bm).setCell (p := ⟨we.heap.size, 10, none⟩) (Nat.le_refl _) (.slice (some ⟨wf0.heap.size, 0, none⟩) 8193 8193)
  replace Vf := Vf.set 10 (by simp) (.slice (some ⟨wf0.heap.size, 0, none⟩) 8193 8193)
  simp only [List.set_cons_zero, List.set_cons_succ] at Vf
  have Tf : Rd (wm.setCell ⟨we.heap.size, 10, none⟩ (.slice (some ⟨wf0.heap.size, 0, none⟩) 8193 8193)) (some ⟨wf0.heap.size, 0, none⟩) ((List.replicate 8193 (0 : UInt8)).map byt) := by
    have := own_rd ((Gro.set we.heap.size we.heap.size 10 wm (.slice (some ⟨wf0.heap.size, 0, none⟩) 8193 8193)).own ownm (by omega))
    rwa [zeros_made] at this
  clear bx bm ownm hgm zx
  generalize World.setCell _ _ _ = wf at be Vf Tf ⊢
  obtain ⟨lf, hlf, Tf⟩ : ∃ l : List UInt8, Hid (l.length = 8193) ∧ Rd wf (some ⟨wf0.heap.size, 0, none⟩) (l.map byt) := ⟨_, hid List.length_replicate, Tf⟩
  replace R0 := hid (R0.out.below be)
  replace Va := hid (Va.out.below be)
  replace Vb := hid (Vb.out.below be)
  replace Vc := hid (Vc.out.below be)
  replace Vd := hid (Vd.out.below be)
  replace Ve := hid (Ve.out.below be)
  replace b0 := below_step b0 be
  replace ho := hid (ho.out.below be)
  clear be
  replace Vf := hid Vf
  replace Tf := hid Tf
  as_aux_lemma =>
  have bx := below_setCells (below_alloc wf (.cells #[.int .i64 0, .int .i64 0, .int .i64 0, .int .i64 0, .int .i64 0, .int .i64 0, .int .i64 0, .int .i64 0, .int .i64 0, .int .i64 0, .slice none 0 0, .bool false, .int .i64 0, .slice none 0 0, .slice none 0 0] 28)) (Nat.le_refl _) [.int .i64 o.n.1, .int .i64 o.n.2.1, .int .i64 o.n.2.2.1, .int .i64 o.n.2.2.2.1, .int .i64 o.n.2.2.2.2.1, .int .i64 o.n.2.2.2.2.2.1, .int .i64 o.n.2.2.2.2.2.2.1, .int .i64 o.n.2.2.2.2.2.2.2.1, .int .i64 o.n.2.2.2.2.2.2.2.2.1, .int .i64 o.n.2.2.2.2.2.2.2.2.2, .slice o.bA o.b.length o.bc, .bool o.has, .int .i64 o.st, .slice o.eA o.es.length o.ec, .slice o.kA o.chk.length o.kc]
  have Zg := Row.new wf [.int .i64 0, .int .i64 0, .int .i64 0, .int .i64 0, .int .i64 0, .int .i64 0, .int .i64 0, .int .i64 0, .int .i64 0, .int .i64 0, .slice none 0 0, .bool false, .int .i64 0, .slice none 0 0, .slice none 0 0] 28
  have Vg := Zg.setCells (us := [.int .i64 o.n.1, .int .i64 o.n.2.1, .int .i64 o.n.2.2.1, .int .i64 o.n.2.2.2.1, .int .i64 o.n.2.2.2.2.1, .int .i64 o.n.2.2.2.2.2.1, .int .i64 o.n.2.2.2.2.2.2.1, .int .i64 o.n.2.2.2.2.2.2.2.1, .int .i64 o.n.2.2.2.2.2.2.2.2.1, .int .i64 o.n.2.2.2.2.2.2.2.2.2, .slice o.bA o.b.length o.bc, .bool o.has, .int .i64 o.st, .slice o.eA o.es.length o.ec, .slice o.kA o.chk.length o.kc]) rfl
  replace bx := hid bx
  replace Vg := hid Vg
  go_upto_region 17 with (first | (refine wpList_load_lit w.heap.size [.int .i64 o.n.1, .int .i64 o.n.2.1, .int .i64 o.n.2.2.1, .int .i64 o.n.2.2.2.1, .int .i64 o.n.2.2.2.2.1, .int .i64 o.n.2.2.2.2.2.1, .int .i64 o.n.2.2.2.2.2.2.1, .int .i64 o.n.2.2.2.2.2.2.2.1, .int .i64 o.n.2.2.2.2.2.2.2.2.1, .int .i64 o.n.2.2.2.2.2.2.2.2.2, .slice o.bA o.b.length o.bc, .bool o.has, .int .i64 o.st, .slice o.eA o.es.length o.ec, .slice o.kA o.chk.length o.kc] ?_ ?_ Tryd.underlying28 rfl (by kernel_rfl) ?_; (· rfl); (· exact R0.out)) | (refine wpList_store_lit wf.heap.size [.int .i64 o.n.1, .int .i64 o.n.2.1, .int .i64 o.n.2.2.1, .int .i64 o.n.2.2.2.1, .int .i64 o.n.2.2.2.2.1, .int .i64 o.n.2.2.2.2.2.1, .int .i64 o.n.2.2.2.2.2.2.1, .int .i64 o.n.2.2.2.2.2.2.2.1, .int .i64 o.n.2.2.2.2.2.2.2.2.1, .int .i64 o.n.2.2.2.2.2.2.2.2.2, .slice o.bA o.b.length o.bc, .bool o.has, .int .i64 o.st, .slice o.eA o.es.length o.ec, .slice o.kA o.chk.length o.kc] [.int .i64 0, .int .i64 0, .int .i64 0, .int .i64 0, .int .i64 0, .int .i64 0, .int .i64 0, .int .i64 0, .int .i64 0, .int .i64 0, .slice none 0 0, .bool false, .int .i64 0, .slice none 0 0, .slice none 0 0] ?_ ?_ ?_ rfl (by kernel_rfl) rfl ?_; (· rfl); (· rfl); (· exact Zg)))
  replace bx := bx.out
  replace Vg := Vg.out
  clear Zg
  have zx : wf.heap.size < ((wf.alloc (.cells #[.int .i64 0, .int .i64 0, .int .i64 0, .int .i64 0, .int .i64 0, .int .i64 0, .int .i64 0, .int .i64 0, .int .i64 0, .int .i64 0, .slice none 0 0, .bool false, .int .i64 0, .slice none 0 0, .slice none 0 0] 28)).setCells wf.heap.size 0 [.int .i64 o.n.1, .int .i64 o.n.2.1, .int .i64 o.n.2.2.1, .int .i64 o.n.2.2.2.1, .int .i64 o.n.2.2.2.2.1, .int .i64 o.n.2.2.2.2.2.1, .int .i64 o.n.2.2.2.2.2.2.1, .int .i64 o.n.2.2.2.2.2.2.2.1, .int .i64 o.n.2.2.2.2.2.2.2.2.1, .int .i64 o.n.2.2.2.2.2.2.2.2.2, .slice o.bA o.b.length o.bc, .bool o.has, .int .i64 o.st, .slice o.eA o.es.length o.ec, .slice o.kA o.chk.length o.kc]).heap.size := Vg.1
  generalize World.setCells _ _ _ _ = wg0 at bx Vg zx ⊢
  go_upto_region 18 with (first | (refine wpList_store_cell wf.heap.size 14 (.slice (some ⟨wg0.heap.size, 0, none⟩) 65537 65537) [.int .i64 o.n.1, .int .i64 o.n.2.1, .int .i64 o.n.2.2.1, .int .i64 o.n.2.2.2.1, .int .i64 o.n.2.2.2.2.1, .int .i64 o.n.2.2.2.2.2.1, .int .i64 o.n.2.2.2.2.2.2.1, .int .i64 o.n.2.2.2.2.2.2.2.1, .int .i64 o.n.2.2.2.2.2.2.2.2.1, .int .i64 o.n.2.2.2.2.2.2.2.2.2, .slice o.bA o.b.length o.bc, .bool o.has, .int .i64 o.st, .slice o.eA o.es.length o.ec, .slice o.kA o.chk.length o.kc] ?_ ?_ ?_ (by simp) (by kernel_rfl) rfl rfl ?_; (· rfl); (· rfl); (· exact Vg)) | (at_make; refine wpList_mkn rfl (.const (.int .i64 65537)) (.const (.int .i64 65537)) 23 rfl wg0.heap.size 5 Tryd.underlying23 infoB 65537 rfl rfl rfl rfl (by omega) (by omega) (Nat.le_refl _) ?_; intro wm ownm hgm; have bm := below_of_grown hgm; replace Vg := Vg.below bm))
  have be := (below_step bx bm).setCell (p := ⟨wf.heap.size, 14, none⟩) (Nat.le_refl _) (.slice (some ⟨wg0.heap.size, 0, none⟩) 65537 65537)
  replace Vg := Vg.set 14 (by simp) (.slice (some ⟨wg0.heap.size, 0, none⟩) 65537 65537)
  simp only [List.set_cons_zero, List.set_cons_succ] at Vg
  have Tg : Rd (wm.setCell ⟨wf.heap.size, 14, none⟩ (.slice (some ⟨wg0.heap.size, 0, none⟩) 65537 65537)) (some ⟨wg0.heap.size, 0, none⟩) ((List.replicate 65537 (0 : UInt8)).map byt) := by
    have := own_rd ((Gro.set wf.heap.size wf.heap.size 14 wm (.slice (some ⟨wg0.heap.size, 0, none⟩) 65537 65537)).own ownm (by omega))
    rwa [zeros_made] at this
  clear bx bm ownm hgm zx
  generalize World.setCell _ _ _ = wg at be Vg Tg ⊢
  obtain ⟨lg, hlg, Tg⟩ : ∃ l : List UInt8, Hid (l.length = 65537) ∧ Rd wg (some ⟨wg0.heap.size, 0, none⟩) (l.map byt) := ⟨_, hid List.length_replicate, Tg⟩
  replace R0 := hid (R0.out.below be)
  replace Va := hid (Va.out.below be)
  replace Vb := hid (Vb.out.below be)
  replace Vc := hid (Vc.out.below be)
  replace Vd := hid (Vd.out.below be)
  replace Ve := hid (Ve.out.below be)
  replace Vf := hid (Vf.out.below be)
  replace Tf := hid (Tf.out.below be)
  replace b0 := below_step b0 be
  replace ho := hid (ho.out.below be)
  clear be
  replace Vg := hid Vg
  replace Tg := hid Tg
  as_aux_lemma =>
  have bx := below_setCells (below_alloc wg (.cells #[.int .i64 0, .int .i64 0, .int .i64 0, .int .i64 0, .int .i64 0, .int .i64 0, .int .i64 0, .int .i64 0, .int .i64 0, .int .i64 0, .slice none 0 0, .bool false, .int .i64 0, .slice none 0 0, .slice none 0 0] 28)) (Nat.le_refl _) [.int .i64 o.n.1, .int .i64 o.n.2.1, .int .i64 o.n.2.2.1, .int .i64 o.n.2.2.2.1, .int .i64 o.n.2.2.2.2.1, .int .i64 o.n.2.2.2.2.2.1, .int .i64 o.n.2.2.2.2.2.2.1, .int .i64 o.n.2.2.2.2.2.2.2.1, .int .i64 o.n.2.2.2.2.2.2.2.2.1, .int .i64 o.n.2.2.2.2.2.2.2.2.2, .slice o.bA o.b.length o.bc, .bool o.has, .int .i64 o.st, .slice o.eA o.es.length o.ec, .slice o.kA o.chk.length o.kc]
  have Zh := Row.new wg [.int .i64 0, .int .i64 0, .int .i64 0, .int .i64 0, .int .i64 0, .int .i64 0, .int .i64 0, .int .i64 0, .int .i64 0, .int .i64 0, .slice none 0 0, .bool false, .int .i64 0, .slice none 0 0, .slice none 0 0] 28
  have Vh := Zh.setCells (us := [.int .i64 o.n.1, .int .i64 o.n.2.1, .int .i64 o.n.2.2.1, .int .i64 o.n.2.2.2.1, .int .i64 o.n.2.2.2.2.1, .int .i64 o.n.2.2.2.2.2.1, .int .i64 o.n.2.2.2.2.2.2.1, .int .i64 o.n.2.2.2.2.2.2.2.1, .int .i64 o.n.2.2.2.2.2.2.2.2.1, .int .i64 o.n.2.2.2.2.2.2.2.2.2, .slice o.bA o.b.length o.bc, .bool o.has, .int .i64 o.st, .slice o.eA o.es.length o.ec, .slice o.kA o.chk.length o.kc]) rfl
  replace bx := hid bx
  replace Vh := hid Vh
  go_upto_region 19 with (first | (refine wpList_load_lit w.heap.size [.int .i64 o.n.1, .int .i64 o.n.2.1, .int .i64 o.n.2.2.1, .int .i64 o.n.2.2.2.1, .int .i64 o.n.2.2.2.2.1, .int .i64 o.n.2.2.2.2.2.1, .int .i64 o.n.2.2.2.2.2.2.1, .int .i64 o.n.2.2.2.2.2.2.2.1, .int .i64 o.n.2.2.2.2.2.2.2.2.1, .int .i64 o.n.2.2.2.2.2.2.2.2.2, .slice o.bA o.b.length o.bc, .bool o.has, .int .i64 o.st, .slice o.eA o.es.length o.ec, .slice o.kA o.chk.length o.kc] ?_ ?_ Tryd.underlying28 rfl (by kernel_rfl) ?_; (· rfl); (· exact R0.out)) | (refine wpList_store_lit wg.heap.size [.int .i64 o.n.1, .int .i64 o.n.2.1, .int .i64 o.n.2.2.1, .int .i64 o.n.2.2.2.1, .int .i64 o.n.2.2.2.2.1, .int .i64 o.n.2.2.2.2.2.1, .int .i64 o.n.2.2.2.2.2.2.1, .int .i64 o.n.2.2.2.2.2.2.2.1, .int .i64 o.n.2.2.2.2.2.2.2.2.1, .int .i64 o.n.2.2.2.2.2.2.2.2.2, .slice o.bA o.b.length o.bc, .bool o.has, .int .i64 o.st, .slice o.eA o.es.length o.ec, .slice o.kA o.chk.length o.kc] [.int .i64 0, .int .i64 0, .int .i64 0, .int .i64 0, .int .i64 0, .int .i64 0, .int .i64 0, .int .i64 0, .int .i64 0, .int .i64 0, .slice none 0 0, .bool false, .int .i64 0, .slice none 0 0, .slice none 0 0] ?_ ?_ ?_ rfl (by kernel_rfl) rfl ?_; (· rfl); (· rfl); (· exact Zh)))
  replace bx := bx.out
  replace Vh := Vh.out
  clear Zh
  have zx : wg.heap.size < ((wg.alloc (.cells #[.int .i64 0, .int .i64 0, .int .i64 0, .int .i64 0, .int .i64 0, .int .i64 0, .int .i64 0, .int .i64 0, .int .i64 0, .int .i64 0, .slice none 0 0, .bool false, .int .i64 0, .slice none 0 0, .slice none 0 0] 28)).setCells wg.heap.size 0 [.int .i64 o.n.1, .int .i64 o.n.2.1, .int .i64 o.n.2.2.1, .int .i64 o.n.2.2.2.1, .int .i64 o.n.2.2.2.2.1, .int .i64 o.n.2.2.2.2.2.1, .int .i64 o.n.2.2.2.2.2.2.1, .int .i64 o.n.2.2.2.2.2.2.2.1, .int .i64 o.n.2.2.2.2.2.2.2.2.1, .int .i64 o.n.2.2.2.2.2.2.2.2.2, .slice o.bA o.b.length o.bc, .bool o.has, .int .i64 o.st, .slice o.eA o.es.length o.ec, .slice o.kA o.chk.length o.kc]).heap.size := Vh.1
  generalize World.setCells _ _ _ _ = wh0 at bx Vh zx ⊢
  go_upto_region 20 with (first | (refine wpList_store_cell wg.heap.size 13 (.slice (some ⟨wh0.heap.size, 0, none⟩) 65 65) [.int .i64 o.n.1, .int .i64 o.n.2.1, .int .i64 o.n.2.2.1, .int .i64 o.n.2.2.2.1, .int .i64 o.n.2.2.2.2.1, .int .i64 o.n.2.2.2.2.2.1, .int .i64 o.n.2.2.2.2.2.2.1, .int .i64 o.n.2.2.2.2.2.2.2.1, .int .i64 o.n.2.2.2.2.2.2.2.2.1, .int .i64 o.n.2.2.2.2.2.2.2.2.2, .slice o.bA o.b.length o.bc, .bool o.has, .int .i64 o.st, .slice o.eA o.es.length o.ec, .slice o.kA o.chk.length o.kc] ?_ ?_ ?_ (by simp) (by kernel_rfl) rfl rfl ?_; (· rfl); (· rfl); (· exact Vh)) | (at_make; refine wpList_mkn rfl (.const (.int .i64 65)) (.const (.int .i64 65)) 24 rfl wh0.heap.size 43 Tryd.underlying24 infoE 65 rfl rfl rfl rfl (by omega) (by omega) (Nat.le_refl _) ?_; intro wm ownm hgm; have bm := below_of_grown hgm; replace Vh := Vh.below bm))
  have be := (below_step bx bm).setCell (p := ⟨wg.heap.size, 13, none⟩) (Nat.le_refl _) (.slice (some ⟨wh0.heap.size, 0, none⟩) 65 65)
  replace Vh := Vh.set 13 (by simp) (.slice (some ⟨wh0.heap.size, 0, none⟩) 65 65)
  simp only [List.set_cons_zero, List.set_cons_succ] at Vh
  have Th : Els enEl (wm.setCell ⟨wg.heap.size, 13, none⟩ (.slice (some ⟨wh0.heap.size, 0, none⟩) 65 65)) (some ⟨wh0.heap.size, 0, none⟩) (List.replicate 65 zEn) := by
    have := own_rd ((Gro.set wg.heap.size wg.heap.size 13 wm (.slice (some ⟨wh0.heap.size, 0, none⟩) 65 65)).own ownm (by omega))
    rw [ents_made] at this; exact ⟨this, fun a ha p hp => by rw [List.eq_of_mem_replicate ha] at hp; rw [List.mem_singleton.1 hp]; exact ⟨none, 0, rfl, by decide, by decide, Rd.nil _ _⟩⟩
  clear bx bm ownm hgm zx
  generalize World.setCell _ _ _ = wh at be Vh Th ⊢
  obtain ⟨lh, hlh, Th⟩ : ∃ l : List En, Hid (l.length = 65) ∧ Els enEl wh (some ⟨wh0.heap.size, 0, none⟩) l := ⟨_, hid List.length_replicate, Th⟩
  replace R0 := hid (R0.out.below be)
  replace Va := hid (Va.out.below be)
  replace Vb := hid (Vb.out.below be)
  replace Vc := hid (Vc.out.below be)
  replace Vd := hid (Vd.out.below be)
  replace Ve := hid (Ve.out.below be)
  replace Vf := hid (Vf.out.below be)
  replace Vg := hid (Vg.out.below be)
  replace Tf := hid (Tf.out.below be)
  replace Tg := hid (Tg.out.below be)
  replace b0 := below_step b0 be
  replace ho := hid (ho.out.below be)
  clear be
  replace Vh := hid Vh
  replace Th := hid Th
  as_aux_lemma =>
  obtain ⟨oa, hoa⟩ : ∃ x : Ma, x = ⟨(13, o.n.2.1, o.n.2.2.1, o.n.2.2.2.1, o.n.2.2.2.2.1, o.n.2.2.2.2.2.1, o.n.2.2.2.2.2.2.1, o.n.2.2.2.2.2.2.2.1, o.n.2.2.2.2.2.2.2.2.1, o.n.2.2.2.2.2.2.2.2.2), o.bA, o.bc, o.b, o.has, o.st, o.eA, o.ec, o.es, o.kA, o.kc, o.chk⟩ := ⟨_, rfl⟩
  have Ka := pright_any (o := oa) (w := wh) (by rw [hoa]; exact ⟨ho.out.b, ho.out.e, ho.out.k, ho.out.bc, ho.out.ec, ho.out.kc⟩)
  have hfa : rightM oa.data = false := by rw [hoa]; exact lim_a o
  have hva : oa.val = .agg #[.int .i64 13, .int .i64 o.n.2.1, .int .i64 o.n.2.2.1, .int .i64 o.n.2.2.2.1, .int .i64 o.n.2.2.2.2.1, .int .i64 o.n.2.2.2.2.2.1, .int .i64 o.n.2.2.2.2.2.2.1, .int .i64 o.n.2.2.2.2.2.2.2.1, .int .i64 o.n.2.2.2.2.2.2.2.2.1, .int .i64 o.n.2.2.2.2.2.2.2.2.2, .slice o.bA o.b.length o.bc, .bool o.has, .int .i64 o.st, .slice o.eA o.es.length o.ec, .slice o.kA o.chk.length o.kc] := by rw [hoa]; rfl
  rw [hfa, hva] at Ka
  clear hoa hfa hva
  replace Ka := hid Ka
  have a_0 := (Va.out.2 0 _ rfl).1
  have a_1 := (Va.out.2 1 _ rfl).1
  have a_2 := (Va.out.2 2 _ rfl).1
  have a_3 := (Va.out.2 3 _ rfl).1
  have a_4 := (Va.out.2 4 _ rfl).1
  have a_5 := (Va.out.2 5 _ rfl).1
  have a_6 := (Va.out.2 6 _ rfl).1
  have a_7 := (Va.out.2 7 _ rfl).1
  have a_8 := (Va.out.2 8 _ rfl).1
  have a_9 := (Va.out.2 9 _ rfl).1
  have a_10 := (Va.out.2 10 _ rfl).1
  have a_11 := (Va.out.2 11 _ rfl).1
  have a_12 := (Va.out.2 12 _ rfl).1
  have a_13 := (Va.out.2 13 _ rfl).1
  have a_14 := (Va.out.2 14 _ rfl).1
  go_wp2_with fail
  refine Ka.out.mono ?_
  rintro e wa9 ⟨rfl, hb⟩
  clear a_0 a_1 a_2 a_3 a_4 a_5 a_6 a_7 a_8 a_9 a_10 a_11 a_12 a_13 a_14
  clear Va Ka oa
  replace Vb := hid (Vb.out.below hb)
  replace Vc := hid (Vc.out.below hb)
  replace Vd := hid (Vd.out.below hb)
  replace Ve := hid (Ve.out.below hb)
  replace Vf := hid (Vf.out.below hb)
  replace Vg := hid (Vg.out.below hb)
  replace Vh := hid (Vh.out.below hb)
  replace Tf := hid (Tf.out.below hb)
  replace Tg := hid (Tg.out.below hb)
  replace Th := hid (Th.out.below hb)
  replace b0 := below_step b0 hb
  replace ho := hid (ho.out.below hb)
  clear hb
  as_aux_lemma =>
  obtain ⟨ob, hob⟩ : ∃ x : Ma, x = ⟨(o.n.1, 7, o.n.2.2.1, o.n.2.2.2.1, o.n.2.2.2.2.1, o.n.2.2.2.2.2.1, o.n.2.2.2.2.2.2.1, o.n.2.2.2.2.2.2.2.1, o.n.2.2.2.2.2.2.2.2.1, o.n.2.2.2.2.2.2.2.2.2), o.bA, o.bc, o.b, o.has, o.st, o.eA, o.ec, o.es, o.kA, o.kc, o.chk⟩ := ⟨_, rfl⟩
  have Kb := pright_any (o := ob) (w := wa9) (by rw [hob]; exact ⟨ho.out.b, ho.out.e, ho.out.k, ho.out.bc, ho.out.ec, ho.out.kc⟩)
  have hfb : rightM ob.data = false := by rw [hob]; exact lim_b o
  have hvb : ob.val = .agg #[.int .i64 o.n.1, .int .i64 7, .int .i64 o.n.2.2.1, .int .i64 o.n.2.2.2.1, .int .i64 o.n.2.2.2.2.1, .int .i64 o.n.2.2.2.2.2.1, .int .i64 o.n.2.2.2.2.2.2.1, .int .i64 o.n.2.2.2.2.2.2.2.1, .int .i64 o.n.2.2.2.2.2.2.2.2.1, .int .i64 o.n.2.2.2.2.2.2.2.2.2, .slice o.bA o.b.length o.bc, .bool o.has, .int .i64 o.st, .slice o.eA o.es.length o.ec, .slice o.kA o.chk.length o.kc] := by rw [hob]; rfl
  rw [hfb, hvb] at Kb
  clear hob hfb hvb
  replace Kb := hid Kb
  have b_0 := (Vb.out.2 0 _ rfl).1
  have b_1 := (Vb.out.2 1 _ rfl).1
  have b_2 := (Vb.out.2 2 _ rfl).1
  have b_3 := (Vb.out.2 3 _ rfl).1
  have b_4 := (Vb.out.2 4 _ rfl).1
  have b_5 := (Vb.out.2 5 _ rfl).1
  have b_6 := (Vb.out.2 6 _ rfl).1
  have b_7 := (Vb.out.2 7 _ rfl).1
  have b_8 := (Vb.out.2 8 _ rfl).1
  have b_9 := (Vb.out.2 9 _ rfl).1
  have b_10 := (Vb.out.2 10 _ rfl).1
  have b_11 := (Vb.out.2 11 _ rfl).1
  have b_12 := (Vb.out.2 12 _ rfl).1
  have b_13 := (Vb.out.2 13 _ rfl).1
  have b_14 := (Vb.out.2 14 _ rfl).1
  go_wp2_with fail
  refine Kb.out.mono ?_
  rintro e wb9 ⟨rfl, hb⟩
  clear b_0 b_1 b_2 b_3 b_4 b_5 b_6 b_7 b_8 b_9 b_10 b_11 b_12 b_13 b_14
  clear Vb Kb ob
  replace Vc := hid (Vc.out.below hb)
  replace Vd := hid (Vd.out.below hb)
  replace Ve := hid (Ve.out.below hb)
  replace Vf := hid (Vf.out.below hb)
  replace Vg := hid (Vg.out.below hb)
  replace Vh := hid (Vh.out.below hb)
  replace Tf := hid (Tf.out.below hb)
  replace Tg := hid (Tg.out.below hb)
  replace Th := hid (Th.out.below hb)
  replace b0 := below_step b0 hb
  replace ho := hid (ho.out.below hb)
  clear hb
  as_aux_lemma =>
  obtain ⟨oc, hoc⟩ : ∃ x : Ma, x = ⟨(o.n.1, o.n.2.1, -2, o.n.2.2.2.1, o.n.2.2.2.2.1, o.n.2.2.2.2.2.1, o.n.2.2.2.2.2.2.1, o.n.2.2.2.2.2.2.2.1, o.n.2.2.2.2.2.2.2.2.1, o.n.2.2.2.2.2.2.2.2.2), o.bA, o.bc, o.b, o.has, o.st, o.eA, o.ec, o.es, o.kA, o.kc, o.chk⟩ := ⟨_, rfl⟩
  have Kc := pright_any (o := oc) (w := wb9) (by rw [hoc]; exact ⟨ho.out.b, ho.out.e, ho.out.k, ho.out.bc, ho.out.ec, ho.out.kc⟩)
  have hfc : rightM oc.data = false := by rw [hoc]; exact lim_c o
  have hvc : oc.val = .agg #[.int .i64 o.n.1, .int .i64 o.n.2.1, .int .i64 (-2), .int .i64 o.n.2.2.2.1, .int .i64 o.n.2.2.2.2.1, .int .i64 o.n.2.2.2.2.2.1, .int .i64 o.n.2.2.2.2.2.2.1, .int .i64 o.n.2.2.2.2.2.2.2.1, .int .i64 o.n.2.2.2.2.2.2.2.2.1, .int .i64 o.n.2.2.2.2.2.2.2.2.2, .slice o.bA o.b.length o.bc, .bool o.has, .int .i64 o.st, .slice o.eA o.es.length o.ec, .slice o.kA o.chk.length o.kc] := by rw [hoc]; rfl
  rw [hfc, hvc] at Kc
  clear hoc hfc hvc
  replace Kc := hid Kc
  have c_0 := (Vc.out.2 0 _ rfl).1
  have c_1 := (Vc.out.2 1 _ rfl).1
  have c_2 := (Vc.out.2 2 _ rfl).1
  have c_3 := (Vc.out.2 3 _ rfl).1
  have c_4 := (Vc.out.2 4 _ rfl).1
  have c_5 := (Vc.out.2 5 _ rfl).1
  have c_6 := (Vc.out.2 6 _ rfl).1
  have c_7 := (Vc.out.2 7 _ rfl).1
  have c_8 := (Vc.out.2 8 _ rfl).1
  have c_9 := (Vc.out.2 9 _ rfl).1
  have c_10 := (Vc.out.2 10 _ rfl).1
  have c_11 := (Vc.out.2 11 _ rfl).1
  have c_12 := (Vc.out.2 12 _ rfl).1
  have c_13 := (Vc.out.2 13 _ rfl).1
  have c_14 := (Vc.out.2 14 _ rfl).1
  go_wp2_with fail
  refine Kc.out.mono ?_
  rintro e wc9 ⟨rfl, hb⟩
  clear c_0 c_1 c_2 c_3 c_4 c_5 c_6 c_7 c_8 c_9 c_10 c_11 c_12 c_13 c_14
  clear Vc Kc oc
  replace Vd := hid (Vd.out.below hb)
  replace Ve := hid (Ve.out.below hb)
  replace Vf := hid (Vf.out.below hb)
  replace Vg := hid (Vg.out.below hb)
  replace Vh := hid (Vh.out.below hb)
  replace Tf := hid (Tf.out.below hb)
  replace Tg := hid (Tg.out.below hb)
  replace Th := hid (Th.out.below hb)
  replace b0 := below_step b0 hb
  replace ho := hid (ho.out.below hb)
  clear hb
  as_aux_lemma =>
  obtain ⟨od, hod⟩ : ∃ x : Ma, x = ⟨(o.n.1, o.n.2.1, o.n.2.2.1, 1099511627777, o.n.2.2.2.2.1, o.n.2.2.2.2.2.1, o.n.2.2.2.2.2.2.1, o.n.2.2.2.2.2.2.2.1, o.n.2.2.2.2.2.2.2.2.1, o.n.2.2.2.2.2.2.2.2.2), o.bA, o.bc, o.b, o.has, o.st, o.eA, o.ec, o.es, o.kA, o.kc, o.chk⟩ := ⟨_, rfl⟩
  have Kd := pright_any (o := od) (w := wc9) (by rw [hod]; exact ⟨ho.out.b, ho.out.e, ho.out.k, ho.out.bc, ho.out.ec, ho.out.kc⟩)
  have hfd : rightM od.data = false := by rw [hod]; exact lim_d o
  have hvd : od.val = .agg #[.int .i64 o.n.1, .int .i64 o.n.2.1, .int .i64 o.n.2.2.1, .int .i64 1099511627777, .int .i64 o.n.2.2.2.2.1, .int .i64 o.n.2.2.2.2.2.1, .int .i64 o.n.2.2.2.2.2.2.1, .int .i64 o.n.2.2.2.2.2.2.2.1, .int .i64 o.n.2.2.2.2.2.2.2.2.1, .int .i64 o.n.2.2.2.2.2.2.2.2.2, .slice o.bA o.b.length o.bc, .bool o.has, .int .i64 o.st, .slice o.eA o.es.length o.ec, .slice o.kA o.chk.length o.kc] := by rw [hod]; rfl
  rw [hfd, hvd] at Kd
  clear hod hfd hvd
  replace Kd := hid Kd
  have d_0 := (Vd.out.2 0 _ rfl).1
  have d_1 := (Vd.out.2 1 _ rfl).1
  have d_2 := (Vd.out.2 2 _ rfl).1
  have d_3 := (Vd.out.2 3 _ rfl).1
  have d_4 := (Vd.out.2 4 _ rfl).1
  have d_5 := (Vd.out.2 5 _ rfl).1
  have d_6 := (Vd.out.2 6 _ rfl).1
  have d_7 := (Vd.out.2 7 _ rfl).1
  have d_8 := (Vd.out.2 8 _ rfl).1
  have d_9 := (Vd.out.2 9 _ rfl).1
  have d_10 := (Vd.out.2 10 _ rfl).1
  have d_11 := (Vd.out.2 11 _ rfl).1
  have d_12 := (Vd.out.2 12 _ rfl).1
  have d_13 := (Vd.out.2 13 _ rfl).1
  have d_14 := (Vd.out.2 14 _ rfl).1
  go_wp2_with fail
  refine Kd.out.mono ?_
  rintro e wd9 ⟨rfl, hb⟩
  clear d_0 d_1 d_2 d_3 d_4 d_5 d_6 d_7 d_8 d_9 d_10 d_11 d_12 d_13 d_14
  clear Vd Kd od
  replace Ve := hid (Ve.out.below hb)
  replace Vf := hid (Vf.out.below hb)
  replace Vg := hid (Vg.out.below hb)
  replace Vh := hid (Vh.out.below hb)
  replace Tf := hid (Tf.out.below hb)
  replace Tg := hid (Tg.out.below hb)
  replace Th := hid (Th.out.below hb)
  replace b0 := below_step b0 hb
  replace ho := hid (ho.out.below hb)
  clear hb
  as_aux_lemma =>
  obtain ⟨oe, hoe⟩ : ∃ x : Ma, x = ⟨(o.n.1, o.n.2.1, o.n.2.2.1, o.n.2.2.2.1, -1, o.n.2.2.2.2.2.1, o.n.2.2.2.2.2.2.1, o.n.2.2.2.2.2.2.2.1, o.n.2.2.2.2.2.2.2.2.1, o.n.2.2.2.2.2.2.2.2.2), o.bA, o.bc, o.b, o.has, o.st, o.eA, o.ec, o.es, o.kA, o.kc, o.chk⟩ := ⟨_, rfl⟩
  have Ke := pright_any (o := oe) (w := wd9) (by rw [hoe]; exact ⟨ho.out.b, ho.out.e, ho.out.k, ho.out.bc, ho.out.ec, ho.out.kc⟩)
  have hfe : rightM oe.data = false := by rw [hoe]; exact lim_e o
  have hve : oe.val = .agg #[.int .i64 o.n.1, .int .i64 o.n.2.1, .int .i64 o.n.2.2.1, .int .i64 o.n.2.2.2.1, .int .i64 (-1), .int .i64 o.n.2.2.2.2.2.1, .int .i64 o.n.2.2.2.2.2.2.1, .int .i64 o.n.2.2.2.2.2.2.2.1, .int .i64 o.n.2.2.2.2.2.2.2.2.1, .int .i64 o.n.2.2.2.2.2.2.2.2.2, .slice o.bA o.b.length o.bc, .bool o.has, .int .i64 o.st, .slice o.eA o.es.length o.ec, .slice o.kA o.chk.length o.kc] := by rw [hoe]; rfl
  rw [hfe, hve] at Ke
  clear hoe hfe hve
  replace Ke := hid Ke
  have e_0 := (Ve.out.2 0 _ rfl).1
  have e_1 := (Ve.out.2 1 _ rfl).1
  have e_2 := (Ve.out.2 2 _ rfl).1
  have e_3 := (Ve.out.2 3 _ rfl).1
  have e_4 := (Ve.out.2 4 _ rfl).1
  have e_5 := (Ve.out.2 5 _ rfl).1
  have e_6 := (Ve.out.2 6 _ rfl).1
  have e_7 := (Ve.out.2 7 _ rfl).1
  have e_8 := (Ve.out.2 8 _ rfl).1
  have e_9 := (Ve.out.2 9 _ rfl).1
  have e_10 := (Ve.out.2 10 _ rfl).1
  have e_11 := (Ve.out.2 11 _ rfl).1
  have e_12 := (Ve.out.2 12 _ rfl).1
  have e_13 := (Ve.out.2 13 _ rfl).1
  have e_14 := (Ve.out.2 14 _ rfl).1
  go_wp2_with fail
  refine Ke.out.mono ?_
  rintro e we9 ⟨rfl, hb⟩
  clear e_0 e_1 e_2 e_3 e_4 e_5 e_6 e_7 e_8 e_9 e_10 e_11 e_12 e_13 e_14
  clear Ve Ke oe
  replace Vf := hid (Vf.out.below hb)
  replace Vg := hid (Vg.out.below hb)
  replace Vh := hid (Vh.out.below hb)
  replace Tf := hid (Tf.out.below hb)
  replace Tg := hid (Tg.out.below hb)
  replace Th := hid (Th.out.below hb)
  replace b0 := below_step b0 hb
  replace ho := hid (ho.out.below hb)
  clear hb
  as_aux_lemma =>
  obtain ⟨of, hof⟩ : ∃ x : Ma, x = ⟨o.n, some ⟨wf0.heap.size, 0, none⟩, 8193, lf, o.has, o.st, o.eA, o.ec, o.es, o.kA, o.kc, o.chk⟩ := ⟨_, rfl⟩
  have Kf := pright_any (o := of) (w := we9) (by rw [hof]; exact ⟨Tf.out, ho.out.e, ho.out.k, ⟨Nat.le_of_eq hlf.out, by show (8193 : Nat) ≤ maxLen; unfold maxLen; omega⟩, ho.out.ec, ho.out.kc⟩)
  have hff : rightM of.data = false := by rw [hof]; exact lim_f o _ lf hlf.out
  have hvf : of.val = .agg #[.int .i64 o.n.1, .int .i64 o.n.2.1, .int .i64 o.n.2.2.1, .int .i64 o.n.2.2.2.1, .int .i64 o.n.2.2.2.2.1, .int .i64 o.n.2.2.2.2.2.1, .int .i64 o.n.2.2.2.2.2.2.1, .int .i64 o.n.2.2.2.2.2.2.2.1, .int .i64 o.n.2.2.2.2.2.2.2.2.1, .int .i64 o.n.2.2.2.2.2.2.2.2.2, .slice (some ⟨wf0.heap.size, 0, none⟩) 8193 8193, .bool o.has, .int .i64 o.st, .slice o.eA o.es.length o.ec, .slice o.kA o.chk.length o.kc] := by rw [hof]; unfold Ma.val; dsimp only; rw [hlf.out]
  rw [hff, hvf] at Kf
  clear hof hff hvf
  replace Kf := hid Kf
  have f_0 := (Vf.out.2 0 _ rfl).1
  have f_1 := (Vf.out.2 1 _ rfl).1
  have f_2 := (Vf.out.2 2 _ rfl).1
  have f_3 := (Vf.out.2 3 _ rfl).1
  have f_4 := (Vf.out.2 4 _ rfl).1
  have f_5 := (Vf.out.2 5 _ rfl).1
  have f_6 := (Vf.out.2 6 _ rfl).1
  have f_7 := (Vf.out.2 7 _ rfl).1
  have f_8 := (Vf.out.2 8 _ rfl).1
  have f_9 := (Vf.out.2 9 _ rfl).1
  have f_10 := (Vf.out.2 10 _ rfl).1
  have f_11 := (Vf.out.2 11 _ rfl).1
  have f_12 := (Vf.out.2 12 _ rfl).1
  have f_13 := (Vf.out.2 13 _ rfl).1
  have f_14 := (Vf.out.2 14 _ rfl).1
  go_wp2_with fail
  refine Kf.out.mono ?_
  rintro e wf9 ⟨rfl, hb⟩
  clear f_0 f_1 f_2 f_3 f_4 f_5 f_6 f_7 f_8 f_9 f_10 f_11 f_12 f_13 f_14
  clear Vf Kf of
  replace Vg := hid (Vg.out.below hb)
  replace Vh := hid (Vh.out.below hb)
  replace Tf := hid (Tf.out.below hb)
  replace Tg := hid (Tg.out.below hb)
  replace Th := hid (Th.out.below hb)
  replace b0 := below_step b0 hb
  replace ho := hid (ho.out.below hb)
  clear hb
  as_aux_lemma =>
  obtain ⟨og, hog⟩ : ∃ x : Ma, x = ⟨o.n, o.bA, o.bc, o.b, o.has, o.st, o.eA, o.ec, o.es, some ⟨wg0.heap.size, 0, none⟩, 65537, lg⟩ := ⟨_, rfl⟩
  have Kg := pright_any (o := og) (w := wf9) (by rw [hog]; exact ⟨ho.out.b, ho.out.e, Tg.out, ho.out.bc, ho.out.ec, ⟨Nat.le_of_eq hlg.out, by show (65537 : Nat) ≤ maxLen; unfold maxLen; omega⟩⟩)
  have hfg : rightM og.data = false := by rw [hog]; exact lim_g o _ lg hlg.out
  have hvg : og.val = .agg #[.int .i64 o.n.1, .int .i64 o.n.2.1, .int .i64 o.n.2.2.1, .int .i64 o.n.2.2.2.1, .int .i64 o.n.2.2.2.2.1, .int .i64 o.n.2.2.2.2.2.1, .int .i64 o.n.2.2.2.2.2.2.1, .int .i64 o.n.2.2.2.2.2.2.2.1, .int .i64 o.n.2.2.2.2.2.2.2.2.1, .int .i64 o.n.2.2.2.2.2.2.2.2.2, .slice o.bA o.b.length o.bc, .bool o.has, .int .i64 o.st, .slice o.eA o.es.length o.ec, .slice (some ⟨wg0.heap.size, 0, none⟩) 65537 65537] := by rw [hog]; unfold Ma.val; dsimp only; rw [hlg.out]
  rw [hfg, hvg] at Kg
  clear hog hfg hvg
  replace Kg := hid Kg
  have g_0 := (Vg.out.2 0 _ rfl).1
  have g_1 := (Vg.out.2 1 _ rfl).1
  have g_2 := (Vg.out.2 2 _ rfl).1
  have g_3 := (Vg.out.2 3 _ rfl).1
  have g_4 := (Vg.out.2 4 _ rfl).1
  have g_5 := (Vg.out.2 5 _ rfl).1
  have g_6 := (Vg.out.2 6 _ rfl).1
  have g_7 := (Vg.out.2 7 _ rfl).1
  have g_8 := (Vg.out.2 8 _ rfl).1
  have g_9 := (Vg.out.2 9 _ rfl).1
  have g_10 := (Vg.out.2 10 _ rfl).1
  have g_11 := (Vg.out.2 11 _ rfl).1
  have g_12 := (Vg.out.2 12 _ rfl).1
  have g_13 := (Vg.out.2 13 _ rfl).1
  have g_14 := (Vg.out.2 14 _ rfl).1
  go_wp2_with fail
  refine Kg.out.mono ?_
  rintro e wg9 ⟨rfl, hb⟩
  clear g_0 g_1 g_2 g_3 g_4 g_5 g_6 g_7 g_8 g_9 g_10 g_11 g_12 g_13 g_14
  clear Vg Kg og
  replace Vh := hid (Vh.out.below hb)
  replace Tf := hid (Tf.out.below hb)
  replace Tg := hid (Tg.out.below hb)
  replace Th := hid (Th.out.below hb)
  replace b0 := below_step b0 hb
  replace ho := hid (ho.out.below hb)
  clear hb
  as_aux_lemma =>
  obtain ⟨oh, hoh⟩ : ∃ x : Ma, x = ⟨o.n, o.bA, o.bc, o.b, o.has, o.st, some ⟨wh0.heap.size, 0, none⟩, 65, lh, o.kA, o.kc, o.chk⟩ := ⟨_, rfl⟩
  have Kh := pright_any (o := oh) (w := wg9) (by rw [hoh]; exact ⟨ho.out.b, Th.out, ho.out.k, ho.out.bc, ⟨Nat.le_of_eq hlh.out, by show (65 : Nat) ≤ maxLen; unfold maxLen; omega⟩, ho.out.kc⟩)
  have hfh : rightM oh.data = false := by rw [hoh]; exact lim_h o _ lh hlh.out
  have hvh : oh.val = .agg #[.int .i64 o.n.1, .int .i64 o.n.2.1, .int .i64 o.n.2.2.1, .int .i64 o.n.2.2.2.1, .int .i64 o.n.2.2.2.2.1, .int .i64 o.n.2.2.2.2.2.1, .int .i64 o.n.2.2.2.2.2.2.1, .int .i64 o.n.2.2.2.2.2.2.2.1, .int .i64 o.n.2.2.2.2.2.2.2.2.1, .int .i64 o.n.2.2.2.2.2.2.2.2.2, .slice o.bA o.b.length o.bc, .bool o.has, .int .i64 o.st, .slice (some ⟨wh0.heap.size, 0, none⟩) 65 65, .slice o.kA o.chk.length o.kc] := by rw [hoh]; unfold Ma.val; dsimp only; rw [hlh.out]
  rw [hfh, hvh] at Kh
  clear hoh hfh hvh
  replace Kh := hid Kh
  have h_0 := (Vh.out.2 0 _ rfl).1
  have h_1 := (Vh.out.2 1 _ rfl).1
  have h_2 := (Vh.out.2 2 _ rfl).1
  have h_3 := (Vh.out.2 3 _ rfl).1
  have h_4 := (Vh.out.2 4 _ rfl).1
  have h_5 := (Vh.out.2 5 _ rfl).1
  have h_6 := (Vh.out.2 6 _ rfl).1
  have h_7 := (Vh.out.2 7 _ rfl).1
  have h_8 := (Vh.out.2 8 _ rfl).1
  have h_9 := (Vh.out.2 9 _ rfl).1
  have h_10 := (Vh.out.2 10 _ rfl).1
  have h_11 := (Vh.out.2 11 _ rfl).1
  have h_12 := (Vh.out.2 12 _ rfl).1
  have h_13 := (Vh.out.2 13 _ rfl).1
  have h_14 := (Vh.out.2 14 _ rfl).1
  go_wp2_with fail
  refine Kh.out.mono ?_
  rintro e wh9 ⟨rfl, hb⟩
  clear h_0 h_1 h_2 h_3 h_4 h_5 h_6 h_7 h_8 h_9 h_10 h_11 h_12 h_13 h_14
  clear Vh Kh oh
  replace Tf := hid (Tf.out.below hb)
  replace Tg := hid (Tg.out.below hb)
  replace Th := hid (Th.out.below hb)
  replace b0 := below_step b0 hb
  replace ho := hid (ho.out.below hb)
  clear hb
  go_wp2_with fail
  go_ret
  exact ⟨rfl, b0⟩
end Go.Proofs.YtgkdnhbhmebmeaaDoor
