import Derived.Test.YtkmeoobbjdbhjaaStoreL
import Derived.Test.YtkmeoobbjdbhjaaPlain1
import Derived.Test.YtkmeoobbjdbhjaaWires1
namespace Go.Proofs.Ytkmeoobbjdbhjaa
open Go.RowKit Go.Cov Go.Lib
def flat : PL → List (List UInt8)
  | [] => []
  | a :: l => a.1 :: a.2 :: flat l
theorem flat_app (l m : PL) : flat (l ++ m) = flat l ++ flat m := by
  induction l with
  | nil => rfl
  | cons x l ih => rw [List.cons_append, flat, flat, ih]; rfl
theorem flat_len (l : PL) : (flat l).length = 2 * l.length := by
  induction l with
  | nil => rfl
  | cons x l ih => rw [flat, List.length_cons, List.length_cons, ih, List.length_cons]; omega
theorem flat_step {l : PL} {k : Nat} (h : k < l.length) : flat (l.take (k + 1)) = flat (l.take k) ++ [l[k].1, l[k].2] := by
  rw [List.take_add_one, List.getElem?_eq_getElem h, flat_app]; rfl
def bytesP (L : PL) : List UInt8 × Int := if rightP L then putRowR (flat L) else ([], 1)
theorem flat_mem {l : PL} : ∀ {s : List UInt8}, s ∈ flat l → ∃ a ∈ l, s = a.1 ∨ s = a.2 := by
  induction l with
  | nil => intro s h; simp [flat] at h
  | cons x l ih =>
    intro s h
    rw [flat] at h
    rcases List.mem_cons.1 h with rfl | h
    · exact ⟨x, by simp, .inl rfl⟩
    · rcases List.mem_cons.1 h with rfl | h
      · exact ⟨x, by simp, .inr rfl⟩
      · obtain ⟨a, ha, he⟩ := ih h
        exact ⟨a, by simp [ha], he⟩
theorem flat_fits {L : PL} (h : Fit L) : fits (flat L) = true := by
  unfold fits
  rw [List.all_eq_true]
  intro s hs
  obtain ⟨a, ha, he⟩ := flat_mem hs
  have := h a ha
  rw [decide_eq_true_eq]
  rcases he with rfl | rfl <;> omega
theorem bytesP_right {L : PL} (h : rightP L = true) : bytesP L = (rw' (flat L), 0) := by
  have hk := okay_iff.1 h
  have := hk.len
  unfold bytesP
  rw [if_pos h]
  unfold putRowR
  rw [if_pos ⟨by rw [flat_len]; omega, flat_fits hk.2.1⟩]
set_option maxRecDepth 100000 in
set_option maxHeartbeats 1600000 in
theorem bytes_st {A : Option Addr} {c : Nat} {xs : List Pr} {L : PL} {w : World} (h : St w A c xs L) (hz : xs.length ≤ 2932031007403) :
    Calls Try.prog 16 #[.slice A xs.length c] w fun e w' => ∃ v, e = .returned (.tuple #[v, .int .i64 (bytesP L).2]) ∧ w'.ownsRow w.heap.size 5 1 v (bytesP L).1.length ((bytesP L).1.map byt) ∧ Below w.heap.size w w' := by
  have KR := hid (right_st h hz)
  cases hr : rightP L with
  | false =>
    rw [hr] at KR
    rw [show bytesP L = ([], 1) by rw [bytesP, hr]; rfl]
    go_enter Try.func16, Try.ntmps16
    go_wp2_with fail
    refine KR.out.mono ?_
    rintro e w1 ⟨rfl, hb1⟩
    go_wp2_with fail
    go_ret2
    exact ⟨_, rfl, World.ownsRow_nil _ _ _ _, hb1⟩
  | true =>
    rw [hr] at KR
    have hB : bytesP L = putRowR (flat L) := by rw [bytesP, hr]; rfl
    have hlen := (okay_iff.1 hr).len
    have hxl := h.len
    have KP := hid (fun W B d (rs : List SlR) (hrs : rs.map SlR.l = flat L) (g : Els slEl W B rs) => (show Calls Try.prog 32 #[.slice B rs.length d] W fun e w' => ∃ v, e = .returned (.tuple #[v, .int .i64 (bytesP L).2]) ∧ w'.ownsRow W.heap.size 5 1 v (bytesP L).1.length ((bytesP L).1.map byt) ∧ Below W.heap.size W w' from by
      have := putrow_any (c := d) (slEl_row g) (by rw [hrs, flat_len]; omega)
      rw [List.length_map, hrs, ← hB] at this
      exact this))
    have HX := hid (show xs.length ≤ 256 by omega)
    have HL := hid hxl
    clear hB hlen hxl hr
    go_enter Try.func16, Try.ntmps16
    go_wp2_with fail
    refine KR.out.mono ?_
    rintro e w1 ⟨rfl, hb1⟩
    go_wp2_with fail
    go_loopw [4, 12] (fun v i W => ∃ (k : Nat) (rs : List SlR), k ≤ xs.length ∧ i = .int .i64 k ∧ OwnEls slEl W w.heap.size 23 v rs ∧ rs.map SlR.l = flat (L.take k) ∧ Below w.heap.size w W) (fun _ i _ => xs.length - (RowKit.intOf i).toNat)
    case atStart => exact ⟨0, [], by omega, rfl, OwnEls.nil _ _ _ _, rfl, hb1⟩
    case round =>
      obtain ⟨k, rs, hk, rfl, hown, hrs, hb⟩ := hrel
      have hrl : Hid (rs.length = 2 * k) := hid <| by
        have := congrArg List.length hrs
        rw [List.length_map, flat_len, List.length_take] at this
        have := HL.out
        omega
      by_cases hlt : k < xs.length
      · obtain ⟨ad, rfl, h1, h2, h3, h4⟩ := pr_at (h.below hb).1 k hlt
        have hkL : k < L.length := by have := HL.out; omega
        obtain ⟨y1, y2⟩ := data_at h.2.2 k hlt hkL
        have hst := flat_step hkL
        rw [y1, y2, ← hrs] at hst
        have HST := hid hst
        clear hst y1 y2 hrs
        have hslw := h.1.2 _ (List.getElem_mem hlt)
        generalize xs[k] = x at h1 h2 h3 h4 HST hslw
        have i1 : (k : Int) < xs.length := by omega
        unfold Pr.key at h1
        unfold Pr.val at h2
        have hx24 : xs.length ≤ 256 := HX.out
        have hz2 : xs.length < 140737488351236 := by omega
        have hbase := hb.size
        have bA := below_step hb (below_alloc wr (.cells #[.slice x.kA x.k.length x.kc, .slice x.vA x.v.length x.vc] 42))
        have bB := below_alloc (wr.alloc (.cells #[.slice x.kA x.k.length x.kc, .slice x.vA x.v.length x.vc] 42)) (.cells #[.slice x.kA x.k.length x.kc, .slice x.vA x.v.length x.vc] 23)
        have bAB := below_step (below_alloc wr (.cells #[.slice x.kA x.k.length x.kc, .slice x.vA x.v.length x.vc] 42)) bB
        have hown2 := hown.below bAB
        have hnews := rd_box (wr.alloc (.cells #[.slice x.kA x.k.length x.kc, .slice x.vA x.v.length x.vc] 42)) #[.slice x.kA x.k.length x.kc, .slice x.vA x.v.length x.vc] 23
        rw [size_run] at hnews
        have KO := hid hown2
        have OFF := hid (fun W (hW : Below wr.heap.size wr W) => Off.old (T := slEl) (xs := [⟨x.kA, x.kc, x.k⟩, ⟨x.vA, x.vc, x.v⟩]) (v := u4) (w := w) (w' := W) (fun a ha p hp => by
          have hs2 : ∀ p ∈ prEl.cons x, Sl w p.1 p.2 := hslw
          rcases List.mem_cons.1 ha with rfl | ha
          · rw [List.mem_singleton.1 hp]; exact hs2 _ (by simp [prEl]; left; rfl)
          · rw [List.mem_singleton.1 ha] at hp; rw [List.mem_singleton.1 hp]; exact hs2 _ (by simp [prEl]; right; rfl)) (below_step hb hW) (fun kk hkk => (KO.out.lt hkk).1))
        have hbx := hid (fun w3 (hg3 : World.grownBy ((wr.alloc (.cells #[.slice x.kA x.k.length x.kc, .slice x.vA x.v.length x.vc] 42)).alloc (.cells #[.slice x.kA x.k.length x.kc, .slice x.vA x.v.length x.vc] 23)) w3 u4.ownBlock) => (below_step hb bAB).grown hg3 (below_step hb bAB).size (fun kk hkk => (KO.out.lt hkk).1))
        clear hown hown2
        go_wp2_with (at_builtin; go_loud (refine wpList_app rfl (.tmp 16) (.tmp 21) 50 rfl w.heap.size 23 Try.underlying50 infoR rfl (by decide) u4 rs.length (rs.flatMap slEl.cells) rfl KO.out.1 (some ⟨wr.heap.size + 1, 0, none⟩) 2 2 [.slice x.kA x.k.length x.kc, .slice x.vA x.v.length x.vc] rfl rfl hnews (by intro u hu; simp at hu; rcases hu with rfl | rfl <;> rfl) (by have := hrl.out; omega) (by have := hrl.out; omega) (by rw [size_run, size_run]; omega) ?_); intro v3 w3 hin3 hg3 hat3)
        have hnew := OwnEls.app (ys := [⟨x.kA, x.kc, x.k⟩, ⟨x.vA, x.vc, x.v⟩]) KO.out.2 (OFF.out _ bAB) hin3 hg3 hat3
        have hb3 := hbx.out w3 hg3
        go_roundw
        case rel =>
          refine ⟨k + 1, _, by omega, by go_num, hnew, ?_, hb3⟩
          rw [List.map_append, HST.out]
          rfl
        case measure => simp [RowKit.intOf]; omega
      · obtain rfl : k = xs.length := by omega
        rw [List.take_of_length_le (by have := HL.out; omega)] at hrs
        obtain ⟨C, q, rfl, _, _, hE⟩ := hown.rd
        have HE := hid (KP.out _ C q rs hrs hE)
        clear hrs
        go_wp2_with fail
        refine HE.out.mono ?_
        rintro e w3 ⟨v3, rfl, hown3, hb3⟩
        go_wp2_with fail
        go_ret2
        exact ⟨_, rfl, own_mono hown3 hb.size, below_step hb hb3⟩
end Go.Proofs.Ytkmeoobbjdbhjaa
