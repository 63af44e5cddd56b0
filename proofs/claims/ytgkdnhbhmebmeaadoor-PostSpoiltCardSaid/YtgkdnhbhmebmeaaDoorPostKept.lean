import Derived.Test.YtgkdnhbhmebmeaaDoorPostHead
/-! PostKept: what is read of any bytes has the bytes as they stood. -/
namespace Go.Proofs.YtgkdnhbhmebmeaaDoor
open Go.RowKit Go.Cov
theorem zeroMa_val : zeroMa.val = .agg #[.int .i64 0, .int .i64 0, .int .i64 0, .int .i64 0, .int .i64 0, .int .i64 0, .int .i64 0, .int .i64 0, .int .i64 0, .int .i64 0, .slice none 0 0, .bool false, .int .i64 0, .slice none 0 0, .slice none 0 0] := rfl
set_option maxRecDepth 100000 in
set_option maxHeartbeats 6400000 in
theorem kept_law {A : Option Addr} {c : Nat} {l : List UInt8} {w : World} (h : Rd w A (l.map byt)) (hc : l.length ≤ c) (hl : l.length ≤ 140737488351236) (ht : Tab w) :
    Calls Tryd.prog 5 #[.slice A l.length c] w fun e w' => e = .returned (.bool true) ∧ Below w.heap.size w w' := by
  go_enter Tryd.func5, Tryd.ntmps5
  go_wp2_with fail
  refine (head_any w ht).mono ?_
  rintro e w2 ⟨rfl, hb2⟩
  have h2 := h.below hb2
  have t2 := ht.below hb2
  go_wp2_with fail
  refine (getmsg_any h2 hc hl t2).mono ?_
  rintro e w3 ⟨o, rfl, hod, hor, hb3⟩
  have b3 := below_step hb2 hb3
  have h3 := h2.below hb3
  have t3 := t2.below hb3
  have hcs := readS_cases l
  rw [← hod] at hcs
  generalize (readS l).2 = er at hcs ⊢
  clear hod
  have hov : o.val = .agg #[.int .i64 o.n.1, .int .i64 o.n.2.1, .int .i64 o.n.2.2.1, .int .i64 o.n.2.2.2.1, .int .i64 o.n.2.2.2.2.1, .int .i64 o.n.2.2.2.2.2.1, .int .i64 o.n.2.2.2.2.2.2.1, .int .i64 o.n.2.2.2.2.2.2.2.1, .int .i64 o.n.2.2.2.2.2.2.2.2.1, .int .i64 o.n.2.2.2.2.2.2.2.2.2, .slice o.bA o.b.length o.bc, .bool o.has, .int .i64 o.st, .slice o.eA o.es.length o.ec, .slice o.kA o.chk.length o.kc] := rfl
  have KP := fun W (hW : MaRd W o) (tW : Tab W) => putmsg_any o hW tW
  have KS := fun W (hW : MaRd W o) hz => msame_any o zeroMa hW (zeroMa_rd W) hz
  rw [hov] at KP KS
  rw [zeroMa_val] at KS
  rw [hov]
  clear hov
  replace KP := hid KP
  replace KS := hid KS
  have b4 := below_alloc w3 (.cells #[.int .i64 o.n.1, .int .i64 o.n.2.1, .int .i64 o.n.2.2.1, .int .i64 o.n.2.2.2.1, .int .i64 o.n.2.2.2.2.1, .int .i64 o.n.2.2.2.2.2.1, .int .i64 o.n.2.2.2.2.2.2.1, .int .i64 o.n.2.2.2.2.2.2.2.1, .int .i64 o.n.2.2.2.2.2.2.2.2.1, .int .i64 o.n.2.2.2.2.2.2.2.2.2, .slice o.bA o.b.length o.bc, .bool o.has, .int .i64 o.st, .slice o.eA o.es.length o.ec, .slice o.kA o.chk.length o.kc] 28)
  have R4 := Row.new w3 [.int .i64 o.n.1, .int .i64 o.n.2.1, .int .i64 o.n.2.2.1, .int .i64 o.n.2.2.2.1, .int .i64 o.n.2.2.2.2.1, .int .i64 o.n.2.2.2.2.2.1, .int .i64 o.n.2.2.2.2.2.2.1, .int .i64 o.n.2.2.2.2.2.2.2.1, .int .i64 o.n.2.2.2.2.2.2.2.2.1, .int .i64 o.n.2.2.2.2.2.2.2.2.2, .slice o.bA o.b.length o.bc, .bool o.has, .int .i64 o.st, .slice o.eA o.es.length o.ec, .slice o.kA o.chk.length o.kc] 28
  replace b4 := hid b4
  replace R4 := hid R4
  replace hcs := hid hcs
  go_upto_region 3 with fail
  replace b4 := b4.out
  replace R4 := R4.out
  change Row (w3.alloc (.cells #[.int .i64 o.n.1, .int .i64 o.n.2.1, .int .i64 o.n.2.2.1, .int .i64 o.n.2.2.2.1, .int .i64 o.n.2.2.2.2.1, .int .i64 o.n.2.2.2.2.2.1, .int .i64 o.n.2.2.2.2.2.2.1, .int .i64 o.n.2.2.2.2.2.2.2.1, .int .i64 o.n.2.2.2.2.2.2.2.2.1, .int .i64 o.n.2.2.2.2.2.2.2.2.2, .slice o.bA o.b.length o.bc, .bool o.has, .int .i64 o.st, .slice o.eA o.es.length o.ec, .slice o.kA o.chk.length o.kc] 28)) _ _ at R4
  generalize w3.alloc (.cells #[.int .i64 o.n.1, .int .i64 o.n.2.1, .int .i64 o.n.2.2.1, .int .i64 o.n.2.2.2.1, .int .i64 o.n.2.2.2.2.1, .int .i64 o.n.2.2.2.2.2.1, .int .i64 o.n.2.2.2.2.2.2.1, .int .i64 o.n.2.2.2.2.2.2.2.1, .int .i64 o.n.2.2.2.2.2.2.2.2.1, .int .i64 o.n.2.2.2.2.2.2.2.2.2, .slice o.bA o.b.length o.bc, .bool o.has, .int .i64 o.st, .slice o.eA o.es.length o.ec, .slice o.kA o.chk.length o.kc] 28) = w4 at b4 R4 ⊢
  replace b3 := below_step b3 b4
  have h4 := h3.below b4
  have t4 := t3.below b4
  have hor4 := hor.below b4
  rcases hcs.out with ⟨hR, he, hk⟩ | ⟨hd, he⟩
  · have K := KP.out w4 hor4 t4
    rw [bytesM_ok hR, hk] at K
    dsimp only at K
    subst he
    clear hcs
    replace hR := hid hR
    replace hk := hid hk
    have C0 := (R4.2 0 _ rfl).1
    have C1 := (R4.2 1 _ rfl).1
    have C2 := (R4.2 2 _ rfl).1
    have C3 := (R4.2 3 _ rfl).1
    have C4 := (R4.2 4 _ rfl).1
    have C5 := (R4.2 5 _ rfl).1
    have C6 := (R4.2 6 _ rfl).1
    have C7 := (R4.2 7 _ rfl).1
    have C8 := (R4.2 8 _ rfl).1
    have C9 := (R4.2 9 _ rfl).1
    have C10 := (R4.2 10 _ rfl).1
    have C11 := (R4.2 11 _ rfl).1
    have C12 := (R4.2 12 _ rfl).1
    have C13 := (R4.2 13 _ rfl).1
    have C14 := (R4.2 14 _ rfl).1
    go_wp2_with fail
    refine K.mono ?_
    rintro e w5 ⟨v5, rfl, own5, hb5⟩
    obtain ⟨A5, c5, rfl, _⟩ := own_shape own5
    have c1 := cvm w5 (own_rd own5) c5
    have c2 := cvm w5 (h4.below hb5) c
    replace b3 := below_step b3 hb5
    clear C0 C1 C2 C3 C4 C5 C6 C7 C8 C9 C10 C11 C12 C13 C14
    go_wp2_with fail
    go_ret
    exact ⟨by simp, b3⟩
  · have hz : o.es.length ≤ 100000 := by
      have : o.es.map En.data = [] := congrArg (fun m : MD => m.2.2.2.2.1) hd
      have := congrArg List.length this
      simp at this
      rw [this]; simp
    have K := KS.out w4 hor4 hz
    rw [show sameM o.data zeroMa.data = true from sameM_iff.2 hd] at K
    have je : (er != 0) = true := by simp [he]
    clear hcs
    replace hd := hid hd
    replace he := hid he
    have C0 := (R4.2 0 _ rfl).1
    have C1 := (R4.2 1 _ rfl).1
    have C2 := (R4.2 2 _ rfl).1
    have C3 := (R4.2 3 _ rfl).1
    have C4 := (R4.2 4 _ rfl).1
    have C5 := (R4.2 5 _ rfl).1
    have C6 := (R4.2 6 _ rfl).1
    have C7 := (R4.2 7 _ rfl).1
    have C8 := (R4.2 8 _ rfl).1
    have C9 := (R4.2 9 _ rfl).1
    have C10 := (R4.2 10 _ rfl).1
    have C11 := (R4.2 11 _ rfl).1
    have C12 := (R4.2 12 _ rfl).1
    have C13 := (R4.2 13 _ rfl).1
    have C14 := (R4.2 14 _ rfl).1
    go_wp2_with fail
    refine K.mono ?_
    rintro e w5 ⟨rfl, hb5⟩
    replace b3 := below_step b3 hb5
    clear C0 C1 C2 C3 C4 C5 C6 C7 C8 C9 C10 C11 C12 C13 C14
    go_wp2_with fail
    go_ret
    exact ⟨rfl, b3⟩
end Go.Proofs.YtgkdnhbhmebmeaaDoor
