import Derived.Test.YtfeclopdagbngaaMailC
import Derived.Deep.QuietTactic
import Derived.BigQuiet
namespace Go.Proofs.Ytfeclopdagbngaa
open Go.RowKit Go.Conc Go.Cov

theorem sv_take_succ (ss : List ByteArray) (n : Nat) (h : n < ss.length) : sv (ss.take n) ++ [Value.string ss[n]] = sv (ss.take (n + 1)) := by
  rw [List.take_succ_eq_append_getElem h, sv, sv, List.map_append]; rfl
set_option maxHeartbeats 800000 in
theorem order_walk (room : Int) (h0 : 0 ≤ room) (h1 : room ≤ 255) (A1 : Option Addr) (c1 : Nat) (ss : List ByteArray) (w : World)
    (hss : Rd w A1 (sv ss)) (hn : ss.length ≤ 1000) :
    Calls Try.prog 5 #[.int .u8 room, .slice A1 ss.length c1] w fun e w' => e = .returned (.bool true) ∧ Below w.heap.size w w' := by
  go_enter Try.func5, Try.ntmps5
  go_wp2_with fail
  refine (head_any _).mono ?_
  rintro e w1 ⟨rfl, hb1⟩
  go_wp2_with fail
  obtain ⟨cap, hcap⟩ : ∃ cap : Nat, 1 + room = cap := ⟨(1 + room).toNat, by omega⟩
  have hcap1 : 1 ≤ cap := by omega
  have hcap2 : cap ≤ 256 := by omega
  rw [hcap]
  clear hcap
  refine (new_ok cap (by omega) (by omega) _).mono ?_
  rintro e w2 ⟨rfl, hbox2, hb2⟩
  rw [Int.toNat_natCast] at hbox2
  have hbl2 := hbox2.lt
  go_wp2_with fail
  go_loopg [8] ss.length (fun k i W => ∃ n, k = ss.length - n ∧ n ≤ ss.length ∧ i = .int .i64 n ∧ Box W (w1.heap.size + 1) w1.heap.size cap 54 (sv (ss.take (min n cap))) ∧ w2.grownBy W (some w1.heap.size))
  case atStart => exact ⟨0, by simp, by omega, rfl, by simpa [sv] using hbox2, World.grownBy.refl _ _⟩
  case round =>
    obtain ⟨n, rfl, hnl, rfl, hbox, hg⟩ := hrel
    have hbel : Below w.heap.size w wr := (hb1.trans (hb2.mono hb1.size)).grown hg (by have := hb1.size; have := hb2.size; omega) (by intro k hk; cases hk; exact hb1.size)
    by_cases hlt : n < ss.length
    · obtain ⟨ad, rfl, hc⟩ := hss.addr (ne_nil (n := n) (by simpa [sv] using hlt))
      have hcell0 : wr.cell? (ad.add n) = some (.string (ss[n])) := by
        have h1 := hc n (.string ss[n]) (by simp [sv, hlt])
        exact (hbel.cell (cell_lt h1)).trans h1
      have hmeas : ss.length - (n + 1) < ss.length - n := by omega
      by_cases hroom : n < cap
      · have hm1 : min n cap = n := by omega
        have hm2 : min (n + 1) cap = n + 1 := by omega
        rw [hm1] at hbox
        have hlen : (sv (ss.take n)).length = n := by simp [sv]; omega
        have hlen1 : (sv (ss.take (n + 1))).length = n + 1 := by simp [sv]; omega
        have hts := hid (sv_take_succ ss n hlt)
        have HM2 := hid hm2
        have HL1 := hid hlen1
        clear hm1 hm2 hlen1
        go_wp2_with fail
        refine (put_yes hbox _ (by rw [hlen]; exact hroom)).mono ?_
        rintro e w3 ⟨rfl, hbox3, hg3⟩
        rw [hts.out] at hbox3
        clear hlen
        go_wp2_with fail
        refine (len_any hbox3).mono ?_
        rintro e w4 ⟨rfl, rfl⟩
        rw [HL1.out]
        go_wp2_with fail
        go_roundg (ss.length - (n + 1))
        case rel => exact ⟨n + 1, rfl, by omega, by go_num, by rw [HM2.out]; exact hbox3, grown_after hg hg3 (fun _ _ => .inr rfl)⟩
        case measure => exact hmeas
      · have hm1 : min n cap = cap := by omega
        have hm2 : min (n + 1) cap = cap := by omega
        rw [hm1] at hbox
        have hlen : (sv (ss.take cap)).length = cap := by simp [sv]; omega
        have HM2 := hid hm2
        have HL1 := hid hlen
        clear hm1 hm2 hlen
        go_wp2_with fail
        refine (put_no hbox _ (by rw [HL1.out]; omega)).mono ?_
        rintro e w3 ⟨rfl, rfl⟩
        go_wp2_with fail
        refine (len_any hbox).mono ?_
        rintro e w4 ⟨rfl, rfl⟩
        rw [HL1.out]
        go_wp2_with fail
        go_roundg (ss.length - (n + 1))
        case rel => exact ⟨n + 1, rfl, by omega, by go_num, by rw [HM2.out]; exact hbox, hg⟩
        case measure => exact hmeas
    · obtain rfl : n = ss.length := by omega
      have hB0 : Below w.heap.size w wr := hbel
      by_cases hcl : cap < ss.length
      · have hm1 : min ss.length cap = cap := by omega
        rw [hm1] at hbox
        have hlen : (ss.take cap).length = cap := by simp; omega
        clear hm1
        go_wp2_with fail
        refine (all_any hbox (by rw [hlen]; omega)).mono ?_
        rw [hlen]
        rintro e w3 ⟨va, rfl, ha3, hbox3, hg3⟩
        obtain ⟨Aa, ca, rfl, ha1, ha2, ha3'⟩ := own_shape ha3
        have hra := own_rd ha3
        clear hlen
        have hB3 : Below w.heap.size w w3 := hbel.grown hg3 (by have := hbel.size; omega) (by intro k hk; cases hk; exact hb1.size)
        go_wp2_with fail
        refine (len_any hbox3).mono ?_
        rintro e w4 ⟨rfl, rfl⟩
        go_wp2_with fail
        go_loopw [10] (fun i W => ∃ k q : Nat, k ≤ cap ∧ i = .int .i64 k ∧ W = w3.drewN q) (fun i _ => cap - (intOf i).toNat)
        case atStart => exact ⟨0, 0, Nat.zero_le _, rfl, rfl⟩
        case round =>
          obtain ⟨k, q, hk1, rfl, rfl⟩ := hrel
          by_cases hki : k < cap
          · obtain ⟨adi, rfl, hci⟩ := hra k (.string (ss[k]'(by omega))) (by simp [sv, hki]; try omega)
            obtain ⟨ado, rfl, hco⟩ := hss k (.string (ss[k]'(by omega))) (by simp [sv]; try omega)
            have hco3 := (hB3.cell (cell_lt hco)).trans hco
            have hks : k < ss.length := by omega
            go_wp2_with fail
            go_quiet (fail)
            go_wp2_with fail
            go_roundw
            case rel => exact ⟨k + 1, _, by omega, by go_num, rfl⟩
            case measure => simp [intOf]; omega
          · go_wp2_with fail
            go_ret
            exact ⟨rfl, ⟨hB3.os, hB3.tape, hB3.output, hB3.size, hB3.block⟩⟩
      · have hm1 : ss.take (min ss.length cap) = ss := by rw [List.take_of_length_le (by omega)]
        rw [hm1] at hbox
        clear hm1
        go_wp2_with fail
        refine (all_any hbox (by omega)).mono ?_
        rintro e w3 ⟨va, rfl, ha3, hbox3, hg3⟩
        obtain ⟨Aa, ca, rfl, ha1, ha2, ha3'⟩ := own_shape ha3
        have hra := own_rd ha3
        have hB3 : Below w.heap.size w w3 := hbel.grown hg3 (by have := hbel.size; omega) (by intro k hk; cases hk; exact hb1.size)
        go_wp2_with fail
        refine (len_any hbox3).mono ?_
        rintro e w4 ⟨rfl, rfl⟩
        go_wp2_with fail
        go_loopw [10] (fun i W => ∃ k q : Nat, k ≤ ss.length ∧ i = .int .i64 k ∧ W = w3.drewN q) (fun i _ => ss.length - (intOf i).toNat)
        case atStart => exact ⟨0, 0, Nat.zero_le _, rfl, rfl⟩
        case round =>
          obtain ⟨k, q, hk1, rfl, rfl⟩ := hrel
          by_cases hki : k < ss.length
          · obtain ⟨adi, rfl, hci⟩ := hra k (.string (ss[k]'(by omega))) (by simp [sv, hki]; try omega)
            obtain ⟨ado, rfl, hco⟩ := hss k (.string (ss[k]'(by omega))) (by simp [sv]; try omega)
            have hco3 := (hB3.cell (cell_lt hco)).trans hco
            have hks : k < ss.length := by omega
            go_wp2_with fail
            go_quiet (fail)
            go_wp2_with fail
            go_roundw
            case rel => exact ⟨k + 1, _, by omega, by go_num, rfl⟩
            case measure => simp [intOf]; omega
          · go_wp2_with fail
            go_ret
            exact ⟨rfl, ⟨hB3.os, hB3.tape, hB3.output, hB3.size, hB3.block⟩⟩

set_option maxHeartbeats 400000 in
theorem order_long (room : Int) (h0 : 0 ≤ room) (h1 : room ≤ 255) (A1 : Option Addr) (n c1 : Nat) (w : World) (hn : 1000 < n) :
    Calls Try.prog 5 #[.int .u8 room, .slice A1 n c1] w fun e w' => e = .returned (.bool true) ∧ Below w.heap.size w w' := by
  go_enter Try.func5, Try.ntmps5
  go_wp2_with fail
  refine (head_any _).mono ?_
  rintro e w1 ⟨rfl, hb1⟩
  go_wp2_with fail
  refine (new_ok (1 + room) (by omega) (by omega) _).mono ?_
  rintro e w2 ⟨rfl, hbox2, hb2⟩
  go_wp2_with fail
  go_ret
  exact ⟨rfl, hb1.trans (hb2.mono hb1.size)⟩
theorem order_law (room : Int) (hw : (Lit.int .u8 room).wf = true) (A1 : Option Addr) (c1 : Nat) (ss : List ByteArray) (w : World)
    (hss : Rd w A1 (sv ss)) :
    Calls Try.prog 5 #[.int .u8 room, .slice A1 ss.length c1] w fun e w' => e = .returned (.bool true) ∧ Below w.heap.size w w' := by
  have hb : 0 ≤ room ∧ room ≤ 255 := by simpa [Lit.wf, IntKind.min, IntKind.max, IntKind.signed, IntKind.bits] using hw
  by_cases hn : ss.length ≤ 1000
  · exact order_walk room hb.1 hb.2 A1 c1 ss w hss hn
  · exact order_long room hb.1 hb.2 A1 _ c1 w (by omega)
end Go.Proofs.Ytfeclopdagbngaa
