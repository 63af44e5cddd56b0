import Derived.Test.YtgkdnhbhmebmeaaDoorPostHead
/-! PostSizes: a message's bytes are as many as its parts ask for. -/
namespace Go.Proofs.YtgkdnhbhmebmeaaDoor
open Go.RowKit Go.Cov
theorem rightM_len {o : Ma} (hR : rightM o.data = true) : o.b.length ≤ 8192 ∧ o.chk.length ≤ 65536 ∧ o.es.length ≤ 64 ∧ ∀ x ∈ o.es.map En.data, x.2.2.length ≤ 8192 := by
  unfold rightM rightLog at hR
  simp only [Bool.and_eq_true, decide_eq_true_eq, List.all_eq_true] at hR
  obtain ⟨⟨⟨_, h8, h9⟩, h10⟩, h11⟩ := hR
  have := h8.2.1
  unfold Ma.data at h10 h11 this h9
  simp only [List.length_map] at this
  exact ⟨h10, h11, this, h9⟩
/-- so many bytes have the first k entries -/
def entsN (xs : List En) (k : Nat) : Nat := (((xs.map En.data).take k).flatMap putV).length
theorem entsN_step (xs : List En) (k : Nat) (hk : k < xs.length) : entsN xs (k + 1) = entsN xs k + 20 + xs[k].op.length := by
  unfold entsN
  rw [entsB_step (xs.map En.data) k (by simpa using hk), List.length_append, putV_len, List.getElem_map]
  simp only [En.data]; omega
theorem entsN_all (o : Ma) : (sealed (putM o.data)).length = 109 + o.b.length + o.chk.length + entsN o.es o.es.length := by
  rw [sealed_length, putM_len]
  unfold entsN
  rw [List.take_of_length_le (by simp)]
  unfold Ma.data
  dsimp only
  omega
set_option maxRecDepth 100000 in
set_option maxHeartbeats 6400000 in
theorem sizes_law (o : Ma) {w : World} (ho : MaRd w o) (_io : intM o.data) (ht : Tab w) :
    Calls Tryd.prog 7 #[o.val] w fun e w' => e = .returned (.bool true) ∧ Below w.heap.size w w' := by
  have hov : o.val = .agg #[.int .i64 o.n.1, .int .i64 o.n.2.1, .int .i64 o.n.2.2.1, .int .i64 o.n.2.2.2.1, .int .i64 o.n.2.2.2.2.1, .int .i64 o.n.2.2.2.2.2.1, .int .i64 o.n.2.2.2.2.2.2.1, .int .i64 o.n.2.2.2.2.2.2.2.1, .int .i64 o.n.2.2.2.2.2.2.2.2.1, .int .i64 o.n.2.2.2.2.2.2.2.2.2, .slice o.bA o.b.length o.bc, .bool o.has, .int .i64 o.st, .slice o.eA o.es.length o.ec, .slice o.kA o.chk.length o.kc] := rfl
  have KG := great_any o
  have KP := fun W (hW : MaRd W o) (tW : Tab W) => putmsg_any o hW tW
  have KR := fun W (hW : MaRd W o) => pright_any hW
  rw [hov] at KG KP KR
  rw [hov]
  clear hov
  have b0 := below_alloc w (.cells #[.int .i64 o.n.1, .int .i64 o.n.2.1, .int .i64 o.n.2.2.1, .int .i64 o.n.2.2.2.1, .int .i64 o.n.2.2.2.2.1, .int .i64 o.n.2.2.2.2.2.1, .int .i64 o.n.2.2.2.2.2.2.1, .int .i64 o.n.2.2.2.2.2.2.2.1, .int .i64 o.n.2.2.2.2.2.2.2.2.1, .int .i64 o.n.2.2.2.2.2.2.2.2.2, .slice o.bA o.b.length o.bc, .bool o.has, .int .i64 o.st, .slice o.eA o.es.length o.ec, .slice o.kA o.chk.length o.kc] 28)
  have R0 := Row.new w [.int .i64 o.n.1, .int .i64 o.n.2.1, .int .i64 o.n.2.2.1, .int .i64 o.n.2.2.2.1, .int .i64 o.n.2.2.2.2.1, .int .i64 o.n.2.2.2.2.2.1, .int .i64 o.n.2.2.2.2.2.2.1, .int .i64 o.n.2.2.2.2.2.2.2.1, .int .i64 o.n.2.2.2.2.2.2.2.2.1, .int .i64 o.n.2.2.2.2.2.2.2.2.2, .slice o.bA o.b.length o.bc, .bool o.has, .int .i64 o.st, .slice o.eA o.es.length o.ec, .slice o.kA o.chk.length o.kc] 28
  obtain ⟨gr, hgr⟩ : ∃ g, greatB o = g := ⟨_, rfl⟩
  rw [hgr] at KG
  replace hgr := hid hgr
  replace KG := hid KG
  replace KP := hid KP
  replace KR := hid KR
  go_enter Tryd.func7, Tryd.ntmps7
  go_upto_region 1 with fail
  change Row (w.alloc (.cells #[.int .i64 o.n.1, .int .i64 o.n.2.1, .int .i64 o.n.2.2.1, .int .i64 o.n.2.2.2.1, .int .i64 o.n.2.2.2.2.1, .int .i64 o.n.2.2.2.2.2.1, .int .i64 o.n.2.2.2.2.2.2.1, .int .i64 o.n.2.2.2.2.2.2.2.1, .int .i64 o.n.2.2.2.2.2.2.2.2.1, .int .i64 o.n.2.2.2.2.2.2.2.2.2, .slice o.bA o.b.length o.bc, .bool o.has, .int .i64 o.st, .slice o.eA o.es.length o.ec, .slice o.kA o.chk.length o.kc] 28)) _ _ at R0
  generalize w.alloc (.cells #[.int .i64 o.n.1, .int .i64 o.n.2.1, .int .i64 o.n.2.2.1, .int .i64 o.n.2.2.2.1, .int .i64 o.n.2.2.2.2.1, .int .i64 o.n.2.2.2.2.2.1, .int .i64 o.n.2.2.2.2.2.2.1, .int .i64 o.n.2.2.2.2.2.2.2.1, .int .i64 o.n.2.2.2.2.2.2.2.2.1, .int .i64 o.n.2.2.2.2.2.2.2.2.2, .slice o.bA o.b.length o.bc, .bool o.has, .int .i64 o.st, .slice o.eA o.es.length o.ec, .slice o.kA o.chk.length o.kc] 28) = w1 at b0 R0 ⊢
  replace ho := ho.below b0
  replace ht := ht.below b0
  go_wp2_with fail
  refine (head_any w1 ht).mono ?_
  rintro e w2 ⟨rfl, hb⟩
  replace b0 := below_step b0 hb
  replace R0 := R0.below hb
  replace ho := ho.below hb
  replace ht := ht.below hb
  have C0 := (R0.2 0 _ rfl).1
  have C1 := (R0.2 1 _ rfl).1
  have C2 := (R0.2 2 _ rfl).1
  have C3 := (R0.2 3 _ rfl).1
  have C4 := (R0.2 4 _ rfl).1
  have C5 := (R0.2 5 _ rfl).1
  have C6 := (R0.2 6 _ rfl).1
  have C7 := (R0.2 7 _ rfl).1
  have C8 := (R0.2 8 _ rfl).1
  have C9 := (R0.2 9 _ rfl).1
  have C10 := (R0.2 10 _ rfl).1
  have C11 := (R0.2 11 _ rfl).1
  have C12 := (R0.2 12 _ rfl).1
  have C13 := (R0.2 13 _ rfl).1
  have C14 := (R0.2 14 _ rfl).1
  go_wp2_with fail
  refine (KG.out w2).mono ?_
  rintro e w3 ⟨rfl, hb⟩
  clear C0 C1 C2 C3 C4 C5 C6 C7 C8 C9 C10 C11 C12 C13 C14
  replace b0 := below_step b0 hb
  replace R0 := R0.below hb
  replace ho := ho.below hb
  replace ht := ht.below hb
  clear KG
  cases gr
  case true =>
    go_wp2_with fail
    go_ret
    exact ⟨rfl, b0⟩
  obtain ⟨g1, g2, g3⟩ := greatB_no hgr.out
  have C0 := (R0.2 0 _ rfl).1
  have C1 := (R0.2 1 _ rfl).1
  have C2 := (R0.2 2 _ rfl).1
  have C3 := (R0.2 3 _ rfl).1
  have C4 := (R0.2 4 _ rfl).1
  have C5 := (R0.2 5 _ rfl).1
  have C6 := (R0.2 6 _ rfl).1
  have C7 := (R0.2 7 _ rfl).1
  have C8 := (R0.2 8 _ rfl).1
  have C9 := (R0.2 9 _ rfl).1
  have C10 := (R0.2 10 _ rfl).1
  have C11 := (R0.2 11 _ rfl).1
  have C12 := (R0.2 12 _ rfl).1
  have C13 := (R0.2 13 _ rfl).1
  have C14 := (R0.2 14 _ rfl).1
  cases hR : rightM o.data
  case false =>
    have K := KP.out w3 ho ht
    rw [bytesM_no hR] at K
    replace hR := hid hR
    dsimp only [List.length_nil] at K
    go_wp2_with fail
    refine K.mono ?_
    rintro e w4 ⟨v4, rfl, own4, hb⟩
    replace b0 := below_step b0 hb
    obtain ⟨A4, c4, rfl, _⟩ := own_shape own4
    clear C0 C1 C2 C3 C4 C5 C6 C7 C8 C9 C10 C11 C12 C13 C14
    go_wp2_with fail
    go_ret
    exact ⟨rfl, b0⟩
  obtain ⟨r1, r2, r3, r4⟩ : o.b.length ≤ 8192 ∧ o.chk.length ≤ 65536 ∧ o.es.length ≤ 64 ∧ ∀ x ∈ o.es.map En.data, x.2.2.length ≤ 8192 := rightM_len hR
  have K := KP.out w3 ho ht
  rw [bytesM_ok hR] at K
  replace hR := hid hR
  dsimp only at K
  have hz := entsN_all o
  have hzb : entsN o.es o.es.length ≤ 8212 * 64 := by
    have := entsB_le (o.es.map En.data) r4 o.es.length
    unfold entsN; omega
  have hmono : ∀ k, k ≤ o.es.length → entsN o.es k ≤ 8212 * 64 := fun k hk => by
    have := entsB_le (o.es.map En.data) r4 k
    unfold entsN; omega
  generalize sealed (putM o.data) = lb at K hz
  generalize hn : lb.length = nb at K hz
  go_wp2_with fail
  refine K.mono ?_
  rintro e w4 ⟨v4, rfl, own4, hb⟩
  clear C0 C1 C2 C3 C4 C5 C6 C7 C8 C9 C10 C11 C12 C13 C14
  replace b0 := below_step b0 hb
  replace R0 := R0.below hb
  replace ho := ho.below hb
  obtain ⟨A4, c4, rfl, _⟩ := own_shape own4
  clear K own4 hn
  replace hz := hid hz
  have C10 := (R0.2 10 _ rfl).1
  have C13 := (R0.2 13 _ rfl).1
  have C14 := (R0.2 14 _ rfl).1
  have ES := fun k hk => en_at ho.e k hk
  replace hmono := hid hmono
  go_wp2_with fail
  go_loop [6, 7] (fun n i => ∃ k : Nat, k ≤ o.es.length ∧ i = .int .i64 k ∧ n = .int .i64 (((109 + o.b.length + o.chk.length + entsN o.es k : Nat) : Int))) (fun _ i => o.es.length - (RowKit.intOf i).toNat)
  case atStart => exact ⟨0, by omega, rfl, by simp [entsN]⟩
  case round =>
    obtain ⟨k, hk, rfl, rfl⟩ := hrel
    by_cases hlt : k < o.es.length
    · have i1 : (k : Int) < o.es.length := by omega
      have hst := entsN_step o.es k hlt
      have hm1 := hmono.out k (by omega)
      have hm2 := hmono.out (k + 1) (by omega)
      obtain ⟨ad, hA, x0, x1, x2, rx⟩ := ES k hlt
      rw [hA] at C13
      replace hA := hid hA
      clear rx x0 x1
      have hol : o.es[k].op.length ≤ 8192 := r4 o.es[k].data (List.mem_map_of_mem (List.getElem_mem hlt))
      rw [hst] at hm2
      generalize entsN o.es k = t0 at hst hm1 hm2
      replace hst := hid hst
      go_wp2_with fail
      go_round
      case rel => exact ⟨k + 1, by omega, by go_num, by rw [hst.out]; go_num⟩
      case measure => simp [RowKit.intOf]; omega
    · obtain rfl : k = o.es.length := by omega
      have hz2 := hz.out
      obtain ⟨tn, htn⟩ : ∃ tn : Nat, 109 + o.b.length + o.chk.length + entsN o.es o.es.length = tn := ⟨_, rfl⟩
      rw [htn] at hz2 ⊢
      replace htn := hid htn
      subst hz2
      go_wp2_with fail
      go_ret
      exact ⟨by simp, b0⟩
end Go.Proofs.YtgkdnhbhmebmeaaDoor
