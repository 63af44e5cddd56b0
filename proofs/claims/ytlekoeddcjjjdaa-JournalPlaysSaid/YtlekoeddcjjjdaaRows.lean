/-
  No cell of these rows narrows 'for every input' (looked for: loops, veiled, ifaces, maps, wideKeys, modest, calm, conditions, laid).
  DERIVED. THE GIVEN ROWS OF THIS SEAT. 5 by the template 'for every input the law returns true; each argument reads behind the call as it read before'; 0 by the template 'total and deterministic' (their statements: YtlekoeddcjjjdaaTotals.lean).
  GIVEN WITH THE SEED: the statements are not yours to turn. If you find one false, say at which input.
  Laid BY PROGRAM, IN A SANDBOX (cutbox-rows.mjs): the forced cells as the released guide's own fill.sh prints them over the translation a9aec13b116ea460… (all of the seat's roots in one cut). By AI agents, Wed Nov 11 2026. No macro, syntax, notation, axiom, sorry.
-/
import Derived.Test.YtlekoeddcjjjdaaChecked
import GoSem.Claim
import GoSem.ClaimJoined
import GoSem.ClaimMapViews
import Derived.JoinedTies
import Derived.KernelRfl
namespace Go.Proofs.Ytlekoeddcjjjdaa
/- THE CELL 'sum', in the pinned program and in every row, IS THE sha256 OF THE DUMP (.gsa) THAT YtlekoeddcjjjdaaProg.lean LOADS. Nothing in Lean hashes anything: it is a label: what it is worth is what the hold of that sum in a sandbox is worth. -/
noncomputable def Try.pinned : Pinned := { name := "ytlekoeddcjjjdaa", sum := "a9aec13b116ea460f2faa362801e0f26959e7ee57be894b3d9e94e3d038b71a5", checked := Try.checked }
namespace Rows
def none {H : Type} : Left H := { results := [], args := [] }

/-- 'covenantlaw08.JournalPlays': WHATEVER THE INPUT: true; the input reads as it did. -/
def journalPlaysSpec : ChangeSpec := { name := "journalPlays", fn := fun _ => fun
  | [d1, d2] => { results := [.lit (.bool true)], args := [d1, d2] }
  | _ => none }
def journalPlaysRow : OpenClaim := { program := "ytlekoeddcjjjdaa", sum := "a9aec13b116ea460f2faa362801e0f26959e7ee57be894b3d9e94e3d038b71a5", func := "covenant/covenantlaw08.JournalPlays", spec := "journalPlays", inPlace := ["internal/bytealg.Compare"], unfollowed := true, recurses := true, apart := false }
def JournalPlaysSaid : Prop := journalPlaysRow.holds Try.pinned (OpenSpec.ofChange journalPlaysSpec)

/-- ITS FALSE NEIGHBOUR: 'it returns false'. Refute it at one input. -/
def journalPlaysWrong : ChangeSpec := { name := "journalPlays", fn := fun _ => fun
  | [d1, d2] => { results := [.lit (.bool false)], args := [d1, d2] }
  | _ => none }
def JournalPlaysWrongFalsely : Prop := journalPlaysRow.holds Try.pinned (OpenSpec.ofChange journalPlaysWrong)

/-- 'covenantlaw08.JournalBack': WHATEVER THE INPUT: true; the input reads as it did. -/
def journalBackSpec : ChangeSpec := { name := "journalBack", fn := fun _ => fun
  | [d1, d2, d3] => { results := [.lit (.bool true)], args := [d1, d2, d3] }
  | _ => none }
def journalBackRow : OpenClaim := { program := "ytlekoeddcjjjdaa", sum := "a9aec13b116ea460f2faa362801e0f26959e7ee57be894b3d9e94e3d038b71a5", func := "covenant/covenantlaw08.JournalBack", spec := "journalBack", inPlace := ["internal/bytealg.Compare"], unfollowed := true, recurses := true, apart := false }
def JournalBackSaid : Prop := journalBackRow.holds Try.pinned (OpenSpec.ofChange journalBackSpec)

/-- ITS FALSE NEIGHBOUR: 'it returns false'. Refute it at one input. -/
def journalBackWrong : ChangeSpec := { name := "journalBack", fn := fun _ => fun
  | [d1, d2, d3] => { results := [.lit (.bool false)], args := [d1, d2, d3] }
  | _ => none }
def JournalBackWrongFalsely : Prop := journalBackRow.holds Try.pinned (OpenSpec.ofChange journalBackWrong)

/-- 'covenantlaw08.JournalOwn': WHATEVER THE INPUT: true; the input reads as it did. -/
def journalOwnSpec : ChangeSpec := { name := "journalOwn", fn := fun _ => fun
  | [d1, d2, d3] => { results := [.lit (.bool true)], args := [d1, d2, d3] }
  | _ => none }
def journalOwnRow : OpenClaim := { program := "ytlekoeddcjjjdaa", sum := "a9aec13b116ea460f2faa362801e0f26959e7ee57be894b3d9e94e3d038b71a5", func := "covenant/covenantlaw08.JournalOwn", spec := "journalOwn", inPlace := ["internal/bytealg.Compare"], unfollowed := true, recurses := true, apart := false }
def JournalOwnSaid : Prop := journalOwnRow.holds Try.pinned (OpenSpec.ofChange journalOwnSpec)

/-- ITS FALSE NEIGHBOUR: 'it returns false'. Refute it at one input. -/
def journalOwnWrong : ChangeSpec := { name := "journalOwn", fn := fun _ => fun
  | [d1, d2, d3] => { results := [.lit (.bool false)], args := [d1, d2, d3] }
  | _ => none }
def JournalOwnWrongFalsely : Prop := journalOwnRow.holds Try.pinned (OpenSpec.ofChange journalOwnWrong)

/-- 'covenantlaw08.JournalCounts': WHATEVER THE INPUT: true; the input reads as it did. -/
def journalCountsSpec : ChangeSpec := { name := "journalCounts", fn := fun _ => fun
  | [d1, d2, d3] => { results := [.lit (.bool true)], args := [d1, d2, d3] }
  | _ => none }
def journalCountsRow : OpenClaim := { program := "ytlekoeddcjjjdaa", sum := "a9aec13b116ea460f2faa362801e0f26959e7ee57be894b3d9e94e3d038b71a5", func := "covenant/covenantlaw08.JournalCounts", spec := "journalCounts", inPlace := ["internal/bytealg.Compare"], unfollowed := true, recurses := true, apart := false }
def JournalCountsSaid : Prop := journalCountsRow.holds Try.pinned (OpenSpec.ofChange journalCountsSpec)

/-- ITS FALSE NEIGHBOUR: 'it returns false'. Refute it at one input. -/
def journalCountsWrong : ChangeSpec := { name := "journalCounts", fn := fun _ => fun
  | [d1, d2, d3] => { results := [.lit (.bool false)], args := [d1, d2, d3] }
  | _ => none }
def JournalCountsWrongFalsely : Prop := journalCountsRow.holds Try.pinned (OpenSpec.ofChange journalCountsWrong)

/-- 'covenantlaw08.JournalGets': WHATEVER THE INPUT: true; the input reads as it did. -/
def journalGetsSpec : ChangeSpec := { name := "journalGets", fn := fun _ => fun
  | [d1, d2] => { results := [.lit (.bool true)], args := [d1, d2] }
  | _ => none }
def journalGetsRow : OpenClaim := { program := "ytlekoeddcjjjdaa", sum := "a9aec13b116ea460f2faa362801e0f26959e7ee57be894b3d9e94e3d038b71a5", func := "covenant/covenantlaw08.JournalGets", spec := "journalGets", inPlace := ["internal/bytealg.Compare"], unfollowed := true, recurses := true, apart := false }
def JournalGetsSaid : Prop := journalGetsRow.holds Try.pinned (OpenSpec.ofChange journalGetsSpec)

/-- ITS FALSE NEIGHBOUR: 'it returns false'. Refute it at one input. -/
def journalGetsWrong : ChangeSpec := { name := "journalGets", fn := fun _ => fun
  | [d1, d2] => { results := [.lit (.bool false)], args := [d1, d2] }
  | _ => none }
def JournalGetsWrongFalsely : Prop := journalGetsRow.holds Try.pinned (OpenSpec.ofChange journalGetsWrong)

/- THE SECOND FORM. 'bulk': how many values and letters a reading holds, each counted each time it is reached (what is shared counts as often as it is met; a slice's spare places count too). A statement '..UptoSaid' is the law's where the arguments, and the package variables that the reading takes, are together of bulk at most 1048576: NARROWER than '..Said'. Prove '..Said' where nothing that the law and all that it calls make is longer than what came in: it says more and counts as full. Else prove '..UptoSaid'. A law counts once. -/
mutual
def uptoBulk {H : Type} : DataW H → Nat
  | .lit (.string bytes) => bytes.length + 1
  | .lit _ => 1
  | .nil => 1
  | .ptr d => uptoBulk d + 1
  | .slice elems spare => uptoBulkAll elems + uptoBulkAll spare + 1
  | .agg parts => uptoBulkAll parts + 1
  | .iface _ d => uptoBulk d + 1
  | .map entries => uptoBulkEntries entries + 1
  | .held _ => 1
def uptoBulkAll {H : Type} : List (DataW H) → Nat
  | [] => 0
  | d :: r => uptoBulk d + uptoBulkAll r
def uptoBulkEntries {H : Type} : List (Lit × DataW H) → Nat
  | [] => 0
  | x :: r => uptoBulkEntry x + uptoBulkEntries r
def uptoBulkEntry {H : Type} : Lit × DataW H → Nat
  | (.string bytes, d) => bytes.length + uptoBulk d + 1
  | (_, d) => uptoBulk d + 1
 end
def uptoSmall : (H : Type) → List (DataW H) → Bool := fun _ ds => decide (uptoBulkAll ds ≤ 1048576)
def OpenSpec.upto (s : _root_.Go.ChangeSpec) : _root_.Go.OpenSpec := { _root_.Go.OpenSpec.ofChange s with cond := some uptoSmall }

/-- 'covenantlaw08.JournalPlays', WHERE WHAT IT READS IS OF BULK AT MOST 1048576: true; the input reads as it did. -/
def journalPlaysUptoRow : OpenClaim := { program := "ytlekoeddcjjjdaa", sum := "a9aec13b116ea460f2faa362801e0f26959e7ee57be894b3d9e94e3d038b71a5", func := "covenant/covenantlaw08.JournalPlays", spec := "journalPlays", inPlace := ["internal/bytealg.Compare"], unfollowed := true, recurses := true, apart := false, narrowed := true }
def JournalPlaysUptoSaid : Prop := journalPlaysUptoRow.holds Try.pinned (OpenSpec.upto journalPlaysSpec)

/-- 'covenantlaw08.JournalBack', WHERE WHAT IT READS IS OF BULK AT MOST 1048576: true; the input reads as it did. -/
def journalBackUptoRow : OpenClaim := { program := "ytlekoeddcjjjdaa", sum := "a9aec13b116ea460f2faa362801e0f26959e7ee57be894b3d9e94e3d038b71a5", func := "covenant/covenantlaw08.JournalBack", spec := "journalBack", inPlace := ["internal/bytealg.Compare"], unfollowed := true, recurses := true, apart := false, narrowed := true }
def JournalBackUptoSaid : Prop := journalBackUptoRow.holds Try.pinned (OpenSpec.upto journalBackSpec)

/-- 'covenantlaw08.JournalOwn', WHERE WHAT IT READS IS OF BULK AT MOST 1048576: true; the input reads as it did. -/
def journalOwnUptoRow : OpenClaim := { program := "ytlekoeddcjjjdaa", sum := "a9aec13b116ea460f2faa362801e0f26959e7ee57be894b3d9e94e3d038b71a5", func := "covenant/covenantlaw08.JournalOwn", spec := "journalOwn", inPlace := ["internal/bytealg.Compare"], unfollowed := true, recurses := true, apart := false, narrowed := true }
def JournalOwnUptoSaid : Prop := journalOwnUptoRow.holds Try.pinned (OpenSpec.upto journalOwnSpec)

/-- 'covenantlaw08.JournalCounts', WHERE WHAT IT READS IS OF BULK AT MOST 1048576: true; the input reads as it did. -/
def journalCountsUptoRow : OpenClaim := { program := "ytlekoeddcjjjdaa", sum := "a9aec13b116ea460f2faa362801e0f26959e7ee57be894b3d9e94e3d038b71a5", func := "covenant/covenantlaw08.JournalCounts", spec := "journalCounts", inPlace := ["internal/bytealg.Compare"], unfollowed := true, recurses := true, apart := false, narrowed := true }
def JournalCountsUptoSaid : Prop := journalCountsUptoRow.holds Try.pinned (OpenSpec.upto journalCountsSpec)

/-- 'covenantlaw08.JournalGets', WHERE WHAT IT READS IS OF BULK AT MOST 1048576: true; the input reads as it did. -/
def journalGetsUptoRow : OpenClaim := { program := "ytlekoeddcjjjdaa", sum := "a9aec13b116ea460f2faa362801e0f26959e7ee57be894b3d9e94e3d038b71a5", func := "covenant/covenantlaw08.JournalGets", spec := "journalGets", inPlace := ["internal/bytealg.Compare"], unfollowed := true, recurses := true, apart := false, narrowed := true }
def JournalGetsUptoSaid : Prop := journalGetsUptoRow.holds Try.pinned (OpenSpec.upto journalGetsSpec)

end Rows
end Go.Proofs.Ytlekoeddcjjjdaa
