import Derived.Test.YtengfmcfklakbaaDoorSealF
import Derived.Deep.QuietTactic
import Derived.BigQuiet
import Derived.StillTailTactics
namespace Go.Proofs.YtengfmcfklakbaaDoor
open Go.RowKit Go.Cov
theorem below_drewN (w : World) (n : Nat) : Below w.heap.size w (w.drewN n) := by
  have h := Below.refl w.heap.size w
  exact ⟨h.os, h.tape, h.output, h.size, h.block⟩
theorem run_slice_to {P : Program} {t e : TypeId} {z : Value} {size bytes : Nat} (ht : P.underlying t = some (.slice e)) (hinfo : (P.info? e).map (fun i => (i.zero, i.size, i.bytes)) = some (some z, size, bytes))
    (A : Option Addr) (n c m : Nat) (kd' : IntKind) (j : Int) (hj : j = m) (hc : m ≤ c) (w : World) :
    (Instr.sliceAt t (.slice A n c) none (some (.int kd' j)) none).run P w = .ok (.slice A m c) w := by
  subst hj
  obtain ⟨inf, hinf, _, hz1, _⟩ := info_parts hinfo
  simp [Instr.sliceAt, run_underlying ht, Instr.slice, Instr.sliceBounds, Instr.sliceBound, asIntOf, sizeOf, typeInfo, hinf, hc, Addr.add]
theorem xor_u8 (a b : UInt8) : bits .xor .u8 (a.toNat : Int) (b.toNat : Int) = ((a ^^^ b).toNat : Int) := by
  show IntKind.u8.wrap ((BitVec.ofInt 8 (a.toNat : Int) ^^^ BitVec.ofInt 8 (b.toNat : Int)).toNat : Int) = _
  have e : ∀ x : UInt8, BitVec.ofInt 8 (x.toNat : Int) = x.toBitVec := by
    intro x
    apply BitVec.eq_of_toNat_eq
    simp
  rw [e, e, UInt8.toNat, UInt8.toBitVec_xor]
  have := (a.toBitVec ^^^ b.toBitVec).isLt
  simp only [IntKind.wrap, IntKind.signed, IntKind.bits]
  generalize (a.toBitVec ^^^ b.toBitVec).toNat = n at this
  simp
  omega
set_option maxRecDepth 100000 in
set_option maxHeartbeats 1600000 in
theorem three_law {A B C : Option Addr} {ca cb cc : Nat} {la lb lc : List UInt8} {w : World} (ha : Rd w A (la.map byt)) (hb : Rd w B (lb.map byt)) (hc : Rd w C (lc.map byt)) (hca : la.length ≤ ca) (hcb : lb.length ≤ cb) (hcc : lc.length ≤ cc)
    (hla : la.length ≤ 140737488351232) (hlb : lb.length ≤ 140737488351232) (hlc : lc.length ≤ 140737488351232) (ht : Tab w) :
    Calls Tryd.prog 6 #[.slice A la.length ca, .slice B lb.length cb, .slice C lc.length cc] w fun e w' => e = .returned (.bool true) ∧ Below w.heap.size w w' := by
  obtain ⟨m, hm, hma, hmb⟩ : ∃ m : Nat, (if lb.length < la.length then (lb.length : Int) else (la.length : Int)) = (m : Int) ∧ m ≤ la.length ∧ m ≤ lb.length := by
    by_cases h : lb.length < la.length
    · exact ⟨lb.length, by rw [if_pos h], by omega, by omega⟩
    · exact ⟨la.length, by rw [if_neg h], by omega, by omega⟩
  obtain ⟨n, hn, hnm, hnc⟩ : ∃ n : Nat, (if lc.length < m then (lc.length : Int) else (m : Int)) = (n : Int) ∧ n ≤ m ∧ n ≤ lc.length := by
    by_cases h : lc.length < m
    · exact ⟨lc.length, by rw [if_pos h], by omega, by omega⟩
    · exact ⟨m, by rw [if_neg h], by omega, by omega⟩
  go_enter Tryd.func6, Tryd.ntmps6
  go_wp2_with fail
  refine (head_any ht).mono ?_
  rintro e w1 ⟨rfl, hb1⟩
  have ha1 := ha.below hb1
  have hb1' := hb.below hb1
  have hc1 := hc.below hb1
  clear ha hb hc
  go_wp2_with (at_make; refine wpList_mkn rfl (.tmp 19) (.tmp 19) 22 rfl w1.heap.size 5 Tryd.underlying22 info5 n rfl rfl rfl rfl (by omega) (by omega) (Nat.le_refl _) ?_; intro w2 hown2 hg2)
  have hb2' : Below w1.heap.size w1 w2 := (Below.refl _ _).grown hg2 (Nat.le_refl _) (by intro k hk; cases hk)
  have hb2 := hb1.trans (hb2'.mono hb1.size)
  have hlt2 : w1.heap.size < w2.heap.size := (own_lt hown2 rfl).2
  have hz : (madeCells (Value.int IntKind.u8 0).cells (n * 1)).toList = (List.replicate n (0 : UInt8)).map byt := by
    rw [List.map_replicate]; simp [madeCells, Value.cells, byt, Nat.mod_one, List.map_const']
  rw [hz] at hown2
  clear hz
  have d3l : (Crc.xor3 (la.take n) (lb.take n) (lc.take n)).length = n := by simp [Crc.xor3]; omega
  go_loopw [10] (fun i W => ∃ (k : Nat) (xs : List UInt8), k ≤ n ∧ i = .int .i64 k ∧ xs.length = n ∧ (∀ j, j < k → xs[j]? = (Crc.xor3 (la.take n) (lb.take n) (lc.take n))[j]?) ∧ W.ownsRow w1.heap.size 5 1 (.slice (some ⟨w1.heap.size, 0, none⟩) n n) n (xs.map byt) ∧ w2.grownBy W (Value.slice (some ⟨w1.heap.size, 0, none⟩) n n).ownBlock) (fun i _ => n - (intOf i).toNat)
  case atStart => exact ⟨0, List.replicate n 0, Nat.zero_le _, rfl, by simp, fun j hj => by omega, hown2, World.grownBy.refl _ _⟩
  case round =>
    obtain ⟨k, xs, hk, rfl, hxl, hxs, hown, hg⟩ := hrel
    have hbr : Below w1.heap.size w1 wr := hb2'.grown hg hb2'.size (by intro k hk; simp [Value.ownBlock] at hk; omega)
    by_cases hlt : k < n
    · obtain ⟨pa, hpa, ka⟩ := (ha1.below hbr) k (byt (la[k]'(by omega))) (by rw [List.getElem?_map, List.getElem?_eq_getElem (by omega)]; rfl)
      obtain ⟨pb, hpb, kb⟩ := (hb1'.below hbr) k (byt (lb[k]'(by omega))) (by rw [List.getElem?_map, List.getElem?_eq_getElem (by omega)]; rfl)
      obtain ⟨pc, hpc, kc⟩ := (hc1.below hbr) k (byt (lc[k]'(by omega))) (by rw [List.getElem?_map, List.getElem?_eq_getElem (by omega)]; rfl)
      have hd : (Crc.xor3 (la.take n) (lb.take n) (lc.take n))[k]? = some (la[k]'(by omega) ^^^ lb[k]'(by omega) ^^^ lc[k]'(by omega)) := by
        simp [Crc.xor3, List.getElem?_zipWith, hlt, List.getElem?_eq_getElem (show k < la.length by omega), List.getElem?_eq_getElem (show k < lb.length by omega), List.getElem?_eq_getElem (show k < lc.length by omega)]
      have hb7 : Below wr.heap.size wr wr.drew := (Below.refl _ _).drew
      generalize la[k]'(by omega) = x at ka hd
      generalize lb[k]'(by omega) = y at kb hd
      generalize lc[k]'(by omega) = z at kc hd
      obtain ⟨p, hp, e1⟩ : ∃ p, Hid (p = x ^^^ y) ∧ bits .xor .u8 (x.toNat : Int) (y.toNat : Int) = (p.toNat : Int) := ⟨_, hid rfl, xor_u8 x y⟩
      obtain ⟨q, hq, e2⟩ : ∃ q, Hid (q = p ^^^ z) ∧ bits .xor .u8 (p.toNat : Int) (z.toNat : Int) = (q.toNat : Int) := ⟨_, hid rfl, xor_u8 p z⟩
      have hqd : Hid ((Crc.xor3 (la.take n) (lb.take n) (lc.take n))[k]? = some q) := by rw [hid hd |>.out, hq.out, hp.out] <;> rfl
      clear hd hp hq
      subst hpa hpb hpc
      simp only [byt] at ka kb kc
      go_wp2_with fail
      have hownd := own_below hown hb7
      replace ka : wr.drew.cell? (pa.add k) = some (.int .u8 x.toNat) := ka
      replace kb : wr.drew.cell? (pb.add k) = some (.int .u8 y.toNat) := kb
      replace kc : wr.drew.cell? (pc.add k) = some (.int .u8 z.toNat) := kc
      have hgd : w2.grownBy wr.drew (Value.slice (some ⟨w1.heap.size, 0, none⟩) n n).ownBlock := grown_drew hg
      have q0 : (0 : Int) ≤ (k : Int) := by omega
      have qa : k < la.length := by omega
      have qb : k < lb.length := by omega
      have qc : k < lc.length := by omega
      go_still_tail 17, (by kernel_rfl)
      change wpList _ _ _ _ _ wr.drew
      generalize wr.drew = wd at *
      obtain ⟨b1, b2⟩ := hownd.stored k (byt q)
      have hfk := hownd.frozenAt k
      have hck := hownd.cellAt k (by omega)
      go_wp2_with fail
      go_roundw
      case rel => exact ⟨k + 1, xs.set k q, by omega, by go_num, by simpa using hxl, fun j hj => by
        rw [List.getElem?_set]
        by_cases h : k = j
        · subst h; rw [if_pos rfl, if_pos (by omega), hqd.out]
        · rw [if_neg h]; exact hxs j (by omega), by rw [List.map_set]; exact b1, grown_after hgd b2 (fun j hj => .inr rfl)⟩
      case measure => simp [intOf]; omega
    · obtain rfl : k = n := by omega
      have hxd : xs = Crc.xor3 (la.take k) (lb.take k) (lc.take k) := by
        apply List.ext_getElem?
        intro j
        by_cases hj : j < k
        · exact hxs j hj
        · rw [List.getElem?_eq_none (by omega), List.getElem?_eq_none (by omega)]
      have hbrw : Below w.heap.size w wr := hb1.trans (hbr.mono hb1.size)
      have hb3 := fun m => hbr.trans ((below_drewN wr m).mono hbr.size)
      have htr := fun m => (ht.below hbrw).below (below_drewN wr m)
      have qu : ∀ {X : Option Addr} {cx : Nat} {lx : List UInt8}, Rd w1 X (lx.map byt) → lx.length = k → lx.length ≤ 140737488355328 → ∀ m, Calls Tryd.prog 13 #[.slice X k cx] (wr.drewN m) fun e w' => e = .returned (.int .u32 (Crc.crc lx).toNat) ∧ ∃ m', w' = wr.drewN m' := by
        intro X cx lx hx hl hle m
        subst hl
        exact (sum_any (hx.below (hb3 m)) hle (htr m)).mono fun e w' ⟨he, hw⟩ => ⟨he, m, hw.symm⟩
      have qd : ∀ m, Calls Tryd.prog 13 #[.slice (some ⟨w1.heap.size, 0, none⟩) k k] (wr.drewN m) fun e w' => e = .returned (.int .u32 (Crc.crc xs).toNat) ∧ ∃ m', w' = wr.drewN m' := by
        intro m
        have := sum_any (c := k) (l := xs) (w := wr.drewN m) ((own_rd hown).below (below_drewN wr m)) (by omega) (htr m)
        rw [hxl] at this
        exact this.mono fun e w' ⟨he, hw⟩ => ⟨he, m, hw.symm⟩
      have ka := qu (cx := ca) (lx := la.take k) (by rw [List.map_take]; exact ha1.take k) (by simp; omega) (by simp; omega)
      have kb := qu (cx := cb) (lx := lb.take k) (by rw [List.map_take]; exact hb1'.take k) (by simp; omega) (by simp; omega)
      have kc := qu (cx := cc) (lx := lc.take k) (by rw [List.map_take]; exact hc1.take k) (by simp; omega) (by simp; omega)
      have hsum : Crc.crc xs = Crc.crc (la.take k) ^^^ Crc.crc (lb.take k) ^^^ Crc.crc (lc.take k) := by
        rw [hxd]; exact Crc.crc_three _ _ _ (by simp; omega) (by simp; omega)
      clear qu htr hb3 hbr hown hg hxs d3l hxl hxd
      generalize Crc.crc xs = cd at qd hsum
      generalize Crc.crc (la.take k) = va at ka hsum
      generalize Crc.crc (lb.take k) = vb at kb hsum
      generalize Crc.crc (lc.take k) = vc at kc hsum
      obtain ⟨p, hp, e1⟩ : ∃ p, Hid (p = va ^^^ vb) ∧ bits .xor .u32 (va.toNat : Int) (vb.toNat : Int) = (p.toNat : Int) := ⟨_, hid rfl, xor_u32 va vb⟩
      have e2 : bits .xor .u32 (p.toNat : Int) (vc.toNat : Int) = (cd.toNat : Int) := by rw [xor_u32, hsum, hp.out]
      clear hsum hp
      have s1 := fun W => run_slice_to (P := Tryd.prog) Tryd.underlying22 info5 A la.length ca k .i64 k rfl (by omega) W
      have s2 := fun W => run_slice_to (P := Tryd.prog) Tryd.underlying22 info5 B lb.length cb k .i64 k rfl (by omega) W
      have s3 := fun W => run_slice_to (P := Tryd.prog) Tryd.underlying22 info5 C lc.length cc k .i64 k rfl (by omega) W
      go_wp2_with fail
      go_quiet (first | (go_at_call 13; with_reducible exact qd _) | (go_at_call 13; with_reducible exact ka _) | (go_at_call 13; with_reducible exact kb _) | (go_at_call 13; with_reducible exact kc _))
      go_wp2_with fail
      go_ret
      exact ⟨rfl, hbrw.trans ((below_drewN _ _).mono hbrw.size)⟩
end Go.Proofs.YtengfmcfklakbaaDoor
