import Derived.Test.YtlekoeddcjjjdaaJourY
/-! the ref's journal: Get -/
namespace Go.Proofs.Ytlekoeddcjjjdaa
open Go.RowKit Go.Cov Go.Lib
variable {Bk : Nat → Prop}
set_option maxRecDepth 100000 in
set_option maxHeartbeats 1600000 in
theorem rjget_any {w : World} {base db : Nat} {hist : List PL} {L : PL} {B : Option Addr} {d : Nat} {m : List UInt8} (h : RJ Bk w base db (hist ++ [L])) (hk : Okay L) (hn : hist.length ≤ 100000) (g : Rd w B (m.map byt)) :
    Calls Try.prog 19 #[.pointer (some ⟨db, 0, none⟩), .slice B m.length d] w fun e w' => ∃ D k r, e = .returned (.tuple #[.slice D (r : List UInt8).length k, .bool (getP L m).isSome]) ∧ (getP L m).getD [] = r ∧ Rd w' D (r.map byt) ∧ Below w.heap.size w w' := by
  have KP := hid (rjpairs_any h hn)
  have HK := hid hk
  clear h hk
  go_enter Try.func19, Try.ntmps19
  go_wp2_with fail
  refine KP.out.mono ?_
  rintro e w2 ⟨dv, A, c, xs, rfl, hdv, hg, hb⟩
  have hxl : xs.length ≤ 1000000 := by have := hg.1.len; have := HK.out.len; omega
  have KG := rgetp_any (c := c) (d := d) (hg.1.below hb).1 (by omega) (fun x hx => by have hf := HK.out.2.1 x.data (by rw [← hg.1.2.2]; exact List.mem_map_of_mem hx); have h2 : x.data.2 = x.v := rfl; rw [h2] at hf; omega) (g.below hb)
  rw [hg.1.2.2] at KG
  replace KG := hid KG
  clear hg hdv KP
  go_wp2_with fail
  refine KG.out.mono ?_
  rintro e w3 ⟨D, k, r, rfl, hr, hrd, _, hb3⟩
  go_wp2_with fail
  go_ret2
  exact ⟨D, k, r, rfl, hr, hrd, below_step hb hb3⟩
end Go.Proofs.Ytlekoeddcjjjdaa
