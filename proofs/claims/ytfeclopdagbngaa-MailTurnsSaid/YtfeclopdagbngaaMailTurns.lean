import Derived.Test.YtfeclopdagbngaaMailC
import Derived.Deep.QuietTactic
import Derived.BigQuiet
namespace Go.Proofs.Ytfeclopdagbngaa
open Go.RowKit Go.Conc Go.Cov

def Apart (u v : Value) : Prop := ∀ k, u.ownBlock = some k → v.ownBlock ≠ some k

structure Turn (B : Nat) (w : World) (vi vo : Value) (ins outs wait : List ByteArray) (b c cap : Nat) (W : World) : Prop where
  eq : ins = outs ++ wait
  inn : W.ownsRow B 9 1 vi ins.length (sv ins)
  out : W.ownsRow B 9 1 vo outs.length (sv outs)
  apart : Apart vi vo
  box : Box W b c cap 54 (sv wait)
  room : wait.length ≤ cap
  bel : Below w.heap.size w W
  blt : b < B ∧ c < B ∧ w.heap.size ≤ c ∧ B ≤ W.heap.size

theorem Turn.put {B : Nat} {w W w3 w4 : World} {vi vo v4 : Value} {ins outs wait : List ByteArray} {b c cap : Nat} (T : Turn B w vi vo ins outs wait b c cap W) {s : ByteArray} {cs : Array Value} (hroom : wait.length < cap)
    (hbox3 : Box w3 b c cap 54 (sv wait ++ [Value.string s])) (hg3 : W.grownBy w3 (some c)) (hin4 : w4.ownsRow B 9 1 v4 (ins.length + 1) (sv ins ++ [Value.string s]))
    (hg4 : (w3.alloc (.cells cs 9)).grownBy w4 vi.ownBlock) (hat4 : v4.ownBlock = vi.ownBlock ∨ v4.ownBlock = some (w3.alloc (.cells cs 9)).heap.size) :
    Turn B w v4 vo (ins ++ [s]) outs (wait ++ [s]) b c cap w4 := by
  have hbl := T.blt
  have hs3 := hg3.size
  have g4 : w3.grownBy w4 vi.ownBlock := grown_after (World.grownBy_alloc w3 _ _) hg4 (fun _ _ => .inr rfl)
  have ho3 : w3.ownsRow B 9 1 vo outs.length (sv outs) := T.out.kept hg3 (.inr (fun hh => own_ne T.out hbl.2.1 hh.symm))
  refine ⟨by rw [T.eq]; simp, by simpa [sv] using hin4, ho3.kept g4 ?_, ?_, ?_, by simp; omega, ?_, ?_⟩
  · cases hv : vo.ownBlock with
    | none => exact .inl rfl
    | some k => exact .inr (fun hh => T.apart k hh.symm hv)
  · intro k hk
    rcases hat4 with h | h
    · exact T.apart k (h.symm.trans hk)
    · intro hv
      rw [h] at hk
      injection hk with hk
      have h1 := (own_lt T.out hv).2
      simp at hk
      omega
  · have := hbox3.kept g4 (own_ne T.inn hbl.1) (own_ne T.inn hbl.2.1)
    simpa [sv] using this
  · exact (T.bel.grown hg3 (by have := T.bel.size; omega) (by intro k hk; cases hk; omega)).grown g4 (by have := T.bel.size; omega) (by intro k hk; have := (own_lt T.inn hk).1; omega)
  · have := g4.size
    exact ⟨hbl.1, hbl.2.1, hbl.2.2.1, by omega⟩
theorem Turn.take {B : Nat} {w W w3 w4 : World} {vi vo v4 : Value} {ins outs wait : List ByteArray} {b c cap : Nat} {s : ByteArray} (T : Turn B w vi vo ins outs (s :: wait) b c cap W) {cs : Array Value}
    (hbox3 : Box w3 b c cap 54 (sv wait)) (hg3 : W.grownBy w3 (some c)) (hin4 : w4.ownsRow B 9 1 v4 (outs.length + 1) (sv outs ++ [Value.string s]))
    (hg4 : (w3.alloc (.cells cs 9)).grownBy w4 vo.ownBlock) (hat4 : v4.ownBlock = vo.ownBlock ∨ v4.ownBlock = some (w3.alloc (.cells cs 9)).heap.size) :
    Turn B w vi v4 ins (outs ++ [s]) wait b c cap w4 := by
  have hbl := T.blt
  have hs3 := hg3.size
  have g4 : w3.grownBy w4 vo.ownBlock := grown_after (World.grownBy_alloc w3 _ _) hg4 (fun _ _ => .inr rfl)
  have hi3 : w3.ownsRow B 9 1 vi ins.length (sv ins) := T.inn.kept hg3 (.inr (fun hh => own_ne T.inn hbl.2.1 hh.symm))
  have hroom := T.room
  refine ⟨by rw [T.eq]; simp, hi3.kept g4 ?_, by simpa [sv] using hin4, ?_, ?_, by simp at hroom; omega, ?_, ?_⟩
  · cases hv : vi.ownBlock with
    | none => exact .inl rfl
    | some k => exact .inr (fun hh => T.apart k hv hh.symm)
  · intro k hv hk
    rcases hat4 with h | h
    · exact T.apart k hv (h.symm.trans hk)
    · rw [h] at hk
      injection hk with hk
      have h1 := (own_lt T.inn hv).2
      simp at hk
      omega
  · have := hbox3.kept g4 (own_ne T.out hbl.1) (own_ne T.out hbl.2.1)
    simpa [sv] using this
  · exact (T.bel.grown hg3 (by have := T.bel.size; omega) (by intro k hk; cases hk; omega)).grown g4 (by have := T.bel.size; omega) (by intro k hk; have := (own_lt T.out hk).1; omega)
  · have := g4.size
    exact ⟨hbl.1, hbl.2.1, hbl.2.2.1, by omega⟩
set_option maxHeartbeats 800000 in
theorem turns_walk (room : Int) (h0 : 0 ≤ room) (h1 : room ≤ 255) (A1 A2 : Option Addr) (c1 c2 : Nat) (ss : List ByteArray) (bs : List Bool) (w : World)
    (hss : Rd w A1 (sv ss)) (hbs : Rd w A2 (bs.map Value.bool)) (hn : ss.length ≤ 1000) :
    Calls Try.prog 3 #[.int .u8 room, .slice A1 ss.length c1, .slice A2 bs.length c2] w fun e w' => e = .returned (.bool true) ∧ Below w.heap.size w w' := by
  go_enter Try.func3, Try.ntmps3
  go_wp2_with fail
  refine (head_any _).mono ?_
  rintro e w1 ⟨rfl, hb1⟩
  go_wp2_with fail
  refine (new_ok (1 + room) (by omega) (by omega) _).mono ?_
  rintro e w2 ⟨rfl, hbox2, hb2⟩
  go_wp2_with fail
  go_loopg [9, 10, 11] ss.length (fun k vi vo i W => ∃ n ins outs wait, k = ss.length - n ∧ n ≤ ss.length ∧ i = .int .i64 n ∧ ins.length ≤ n ∧ Turn w2.heap.size w vi vo ins outs wait (w1.heap.size + 1) w1.heap.size (1 + room).toNat W)
  case atStart => exact ⟨0, [], [], [], by simp, by omega, rfl, by simp, rfl, World.ownsRow_nil _ _ _ _, World.ownsRow_nil _ _ _ _, by intro k h; simp [Value.ownBlock] at h, hbox2, by simp, hb1.trans (hb2.mono hb1.size), by have := hbox2.lt; omega, by have := hbox2.lt; omega, hb1.size, Nat.le_refl _⟩
  case round =>
    obtain ⟨n, ins, outs, wait, rfl, hnl, rfl, hil, T⟩ := hrel
    have hbl := T.blt
    by_cases hlt : n < ss.length
    · obtain ⟨ad, rfl, hc⟩ := hss.addr (ne_nil (n := n) (by simpa [sv] using hlt))
      have hcell : ∀ W, Below w.heap.size w W → W.cell? (ad.add n) = some (.string (ss[n])) := fun W hW => by
        have h1 := hc n (.string ss[n]) (by simp [sv, hlt])
        exact (hW.cell (cell_lt h1)).trans h1
      have hcell0 := hcell wr T.bel
      have hmeas : ss.length - (n + 1) < ss.length - n := by omega
      have hbc : n < bs.length → ∃ ad2, A2 = some ad2 ∧ ∀ W, Below w.heap.size w W → W.cell? (ad2.add n) = some (.bool (bs.getD n false)) := fun hb => by
        obtain ⟨ad2, hA2, h2⟩ := hbs n (.bool bs[n]) (by simp [hb])
        refine ⟨ad2, hA2, fun W hW => ?_⟩
        rw [(hW.cell (cell_lt h2)).trans h2]
        simp [hb]
      have hout : outs.length ≤ ins.length := by rw [T.eq]; simp
      by_cases hroom : wait.length < (1 + room).toNat
      · by_cases hb : n < bs.length
        · obtain ⟨ad2, rfl, hbcell⟩ := hbc hb
          obtain ⟨fl, hfl⟩ : ∃ fl, fl = bs.getD n false := ⟨_, rfl⟩
          rw [← hfl] at hbcell
          clear hfl hbc
          go_wp2_with fail
          refine (put_yes T.box _ (by simpa [sv] using hroom)).mono ?_
          rintro e w3 ⟨rfl, hbox3, hg3⟩
          have hB3 : Below w.heap.size w w3 := T.bel.grown hg3 (by have := T.bel.size; omega) (by intro k hk; cases hk; omega)
          have hcell3 := hcell w3 hB3
          have hin3 := (T.inn.kept hg3 (.inr (fun hh => own_ne T.inn hbl.2.1 hh.symm))).alloc (.cells #[.string ss[n]] 9)
          obtain ⟨y, rest, hy⟩ : ∃ y rest, wait ++ [ss[n]] = y :: rest := by
            cases wait with
            | nil => exact ⟨_, _, rfl⟩
            | cons a l => exact ⟨a, l ++ [ss[n]], rfl⟩
          have Hy := hid hy
          clear hy
          cases fl
          · go_wp2_with (at_builtin; refine wpList_app rfl (.tmp 44) (.tmp 49) 22 rfl w2.heap.size 9 Try.underlying22 info9 rfl (by decide) _ _ _ rfl hin3 _ 1 1 [.string ss[n]] rfl rfl (rd_box _ _ _) (by simp [Value.oneCell']) (by omega) (by omega) (by have := hg3.size; simp; omega) ?_; intro v4 w4 hin4 hg4 hat4; have T4 := T.put hroom hbox3 hg3 hin4 hg4 hat4; have hbcell4 := hbcell w4 T4.bel)
            go_roundg (ss.length - (n + 1))
            case rel => exact ⟨n + 1, _, _, _, rfl, by omega, by go_num, by simp; omega, T4⟩
            case measure => exact hmeas
          · go_wp2_with (first | (at_builtin; refine wpList_app rfl (.tmp 44) (.tmp 49) 22 rfl w2.heap.size 9 Try.underlying22 info9 rfl (by decide) _ _ _ rfl hin3 _ 1 1 [.string ss[n]] rfl rfl (rd_box _ _ _) (by simp [Value.oneCell']) (by omega) (by omega) (by have := hg3.size; simp; omega) ?_; intro v4 w4 hin4 hg4 hat4; have T4 := T.put hroom hbox3 hg3 hin4 hg4 hat4; have hbcell4 := hbcell w4 T4.bel; have T5 := T4; rw [Hy.out] at T5) | (go_at_call 9; refine (take_yes T5.box).mono ?_; rintro e w5 ⟨rfl, hbox5, hg5⟩; have hin5 := (T5.out.kept hg5 (.inr (fun hh => own_ne T5.out hbl.2.1 hh.symm))).alloc (.cells #[.string y] 9)) | (at_builtin; refine wpList_app rfl (.tmp 68) (.tmp 70) 22 rfl w2.heap.size 9 Try.underlying22 info9 rfl (by decide) _ _ _ rfl hin5 _ 1 1 [.string y] rfl rfl (rd_box _ _ _) (by simp [Value.oneCell']) (by omega) (by omega) (by have := hg5.size; have := T5.blt.2.2.2; simp; omega) ?_; intro v6 w6 hin6 hg6 hat6; have T6 := T5.take hbox5 hg5 hin6 hg6 hat6))
            go_roundg (ss.length - (n + 1))
            case rel => exact ⟨n + 1, _, _, _, rfl, by omega, by go_num, by simp; omega, T6⟩
            case measure => exact hmeas
        · clear hbc
          go_wp2_with fail
          refine (put_yes T.box _ (by simpa [sv] using hroom)).mono ?_
          rintro e w3 ⟨rfl, hbox3, hg3⟩
          have hB3 : Below w.heap.size w w3 := T.bel.grown hg3 (by have := T.bel.size; omega) (by intro k hk; cases hk; omega)
          have hcell3 := hcell w3 hB3
          have hin3 := (T.inn.kept hg3 (.inr (fun hh => own_ne T.inn hbl.2.1 hh.symm))).alloc (.cells #[.string ss[n]] 9)
          go_wp2_with (at_builtin; refine wpList_app rfl (.tmp 44) (.tmp 49) 22 rfl w2.heap.size 9 Try.underlying22 info9 rfl (by decide) _ _ _ rfl hin3 _ 1 1 [.string ss[n]] rfl rfl (rd_box _ _ _) (by simp [Value.oneCell']) (by omega) (by omega) (by have := hg3.size; simp; omega) ?_; intro v4 w4 hin4 hg4 hat4; have T4 := T.put hroom hbox3 hg3 hin4 hg4 hat4)
          go_roundg (ss.length - (n + 1))
          case rel => exact ⟨n + 1, _, _, _, rfl, by omega, by go_num, by simp; omega, T4⟩
          case measure => exact hmeas
      · obtain ⟨y, rest, rfl⟩ : ∃ y rest, wait = y :: rest := by
          cases wait with
          | nil => exfalso; apply hroom; simp; omega
          | cons a l => exact ⟨a, l, rfl⟩
        have T5 := T
        by_cases hb : n < bs.length
        · obtain ⟨ad2, rfl, hbcell⟩ := hbc hb
          obtain ⟨fl, hfl⟩ : ∃ fl, fl = bs.getD n false := ⟨_, rfl⟩
          rw [← hfl] at hbcell
          have hbcell4 := hbcell wr T.bel
          clear hfl hbc
          cases fl
          · 
            go_wp2_with fail
            refine (put_no T.box _ (by simpa [sv] using hroom)).mono ?_
            rintro e w3 ⟨rfl, rfl⟩
            go_wp2_with fail
            go_roundg (ss.length - (n + 1))
            case rel => exact ⟨n + 1, _, _, _, rfl, by omega, by go_num, by omega, T⟩
            case measure => exact hmeas
          · 
            go_wp2_with fail
            refine (put_no T.box _ (by simpa [sv] using hroom)).mono ?_
            rintro e w3 ⟨rfl, rfl⟩
            go_wp2_with (first | (go_at_call 9; refine (take_yes T5.box).mono ?_; rintro e w5 ⟨rfl, hbox5, hg5⟩; have hin5 := (T5.out.kept hg5 (.inr (fun hh => own_ne T5.out hbl.2.1 hh.symm))).alloc (.cells #[.string y] 9)) | (at_builtin; refine wpList_app rfl (.tmp 68) (.tmp 70) 22 rfl w2.heap.size 9 Try.underlying22 info9 rfl (by decide) _ _ _ rfl hin5 _ 1 1 [.string y] rfl rfl (rd_box _ _ _) (by simp [Value.oneCell']) (by omega) (by omega) (by have := hg5.size; have := T5.blt.2.2.2; simp; omega) ?_; intro v6 w6 hin6 hg6 hat6; have T6 := T5.take hbox5 hg5 hin6 hg6 hat6))
            go_roundg (ss.length - (n + 1))
            case rel => exact ⟨n + 1, _, _, _, rfl, by omega, by go_num, by omega, T6⟩
            case measure => exact hmeas
        · clear hbc
          go_wp2_with fail
          refine (put_no T.box _ (by simpa [sv] using hroom)).mono ?_
          rintro e w3 ⟨rfl, rfl⟩
          go_wp2_with fail
          go_roundg (ss.length - (n + 1))
          case rel => exact ⟨n + 1, _, _, _, rfl, by omega, by go_num, by omega, T⟩
          case measure => exact hmeas
    · obtain ⟨Ai, ci, hvi, hi1, hi2, hi3⟩ := own_shape T.inn
      subst hvi
      have hroomle : wait.length ≤ 1024 := by have := T.room; omega
      have hwl : outs.length + wait.length = ins.length := by rw [T.eq]; simp
      have HW := hid hwl
      have hwl1 : outs.length + wait.length ≤ ins.length := by omega
      have hneq : ((ins.length : Int) != (outs.length : Int) + wait.length) = false := by rw [bne_eq_false_iff_eq]; omega
      clear hwl
      go_wp2_with fail
      refine (all_any T.box hroomle).mono ?_
      rintro e w3 ⟨va, rfl, ha3, hbox3, hg3⟩
      obtain ⟨Aa, ca, rfl, ha1, ha2, ha3'⟩ := own_shape ha3
      have hout3 := T.out.kept hg3 (.inr (fun hh => own_ne T.out hbl.2.1 hh.symm))
      have hin3 := T.inn.kept hg3 (.inr (fun hh => own_ne T.inn hbl.2.1 hh.symm))
      have hB3 : Below w.heap.size w w3 := T.bel.grown hg3 (by have := T.bel.size; omega) (by intro k hk; cases hk; omega)
      go_wp2_with (at_builtin; refine wpList_app rfl (.tmp 72) (.tmp 74) 22 rfl w2.heap.size 9 Try.underlying22 info9 rfl (by decide) _ _ _ rfl hout3 Aa wait.length ca (sv wait) rfl (by simp [sv]) (own_rd ha3) (sv_one _) (by omega) (by omega) (by have := hg3.size; omega) ?_; intro v4 w4 hout4 hg4 hat4; obtain ⟨Ao, co, hvo, ho1, ho2, ho3⟩ := own_shape hout4; subst hvo)
      have g4 : w3.grownBy w4 u10.ownBlock := hg4
      have hin4 := hin3.kept g4 (by
        cases hv : (Value.slice Ai ins.length ci).ownBlock with
        | none => exact .inl rfl
        | some k => exact .inr (fun hh => T.apart k hv hh.symm))
      have hB4 : Below w.heap.size w w4 := hB3.grown g4 (by have := T.bel.size; have := hg3.size; omega) (by intro k hk; have := (own_lt T.out hk).1; omega)
      have hri := own_rd hin4
      have hro := own_rd hout4
      have hins : sv outs ++ sv wait = sv ins := by rw [T.eq]; simp [sv]
      rw [hins] at hro
      clear hout4 hin4 hg4 hat4 hins
      go_loopw [14] (fun i W => ∃ m q : Nat, m ≤ ins.length ∧ i = .int .i64 m ∧ W = w4.drewN q) (fun i _ => ins.length - (intOf i).toNat)
      case atStart => exact ⟨0, 0, Nat.zero_le _, rfl, rfl⟩
      case round =>
        obtain ⟨m, q, hm1, rfl, rfl⟩ := hrel
        by_cases hmi : m < ins.length
        · obtain ⟨adi, rfl, hci⟩ := hri m (.string ins[m]) (by simp [sv, hmi])
          obtain ⟨ado, rfl, hco⟩ := hro m (.string ins[m]) (by simp [sv, hmi])
          have hmo : (m : Int) < (outs.length : Int) + wait.length := by have := HW.out; omega
          have hmo' : m < outs.length + wait.length := by omega
          go_wp2_with fail
          go_quiet (fail)
          go_wp2_with fail
          go_roundw
          case rel => exact ⟨m + 1, _, by omega, by go_num, rfl⟩
          case measure => simp [intOf]; omega
        · go_wp2_with fail
          go_ret
          exact ⟨rfl, ⟨hB4.os, hB4.tape, hB4.output, hB4.size, hB4.block⟩⟩

set_option maxHeartbeats 400000 in
theorem turns_long (room : Int) (h0 : 0 ≤ room) (h1 : room ≤ 255) (A1 A2 : Option Addr) (n c1 m c2 : Nat) (w : World) (hn : 1000 < n) :
    Calls Try.prog 3 #[.int .u8 room, .slice A1 n c1, .slice A2 m c2] w fun e w' => e = .returned (.bool true) ∧ Below w.heap.size w w' := by
  go_enter Try.func3, Try.ntmps3
  go_wp2_with fail
  refine (head_any _).mono ?_
  rintro e w1 ⟨rfl, hb1⟩
  go_wp2_with fail
  refine (new_ok (1 + room) (by omega) (by omega) _).mono ?_
  rintro e w2 ⟨rfl, hbox2, hb2⟩
  go_wp2_with fail
  go_ret
  exact ⟨rfl, hb1.trans (hb2.mono hb1.size)⟩
theorem turns_law (room : Int) (hw : (Lit.int .u8 room).wf = true) (A1 A2 : Option Addr) (c1 c2 : Nat) (ss : List ByteArray) (bs : List Bool) (w : World)
    (hss : Rd w A1 (sv ss)) (hbs : Rd w A2 (bs.map Value.bool)) :
    Calls Try.prog 3 #[.int .u8 room, .slice A1 ss.length c1, .slice A2 bs.length c2] w fun e w' => e = .returned (.bool true) ∧ Below w.heap.size w w' := by
  have hb : 0 ≤ room ∧ room ≤ 255 := by simpa [Lit.wf, IntKind.min, IntKind.max, IntKind.signed, IntKind.bits] using hw
  by_cases hn : ss.length ≤ 1000
  · exact turns_walk room hb.1 hb.2 A1 A2 c1 c2 ss bs w hss hbs hn
  · exact turns_long room hb.1 hb.2 A1 A2 _ c1 _ c2 w (by omega)
end Go.Proofs.Ytfeclopdagbngaa
