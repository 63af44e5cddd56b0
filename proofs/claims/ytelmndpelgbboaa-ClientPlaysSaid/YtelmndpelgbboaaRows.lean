/-
  No cell of these rows narrows 'for every input' (looked for: loops, veiled, ifaces, maps, wideKeys, modest, calm, conditions, laid).
  DERIVED. THE GIVEN ROWS OF THIS SEAT. 4 by the template 'for every input the law returns true; each argument reads behind the call as it read before'; 0 by the template 'total and deterministic' (their statements: YtelmndpelgbboaaTotals.lean).
  GIVEN WITH THE SEED: the statements are not yours to turn. If you find one false, say at which input.
  Laid BY PROGRAM, IN A SANDBOX (cutbox-rows.mjs): the forced cells as the released guide's own fill.sh prints them over the translation 18041ed6a6198beb… (all of the seat's roots in one cut). By AI agents, Wed Nov 11 2026. No macro, syntax, notation, axiom, sorry.
-/
import Derived.Test.YtelmndpelgbboaaChecked
import GoSem.Claim
import GoSem.ClaimJoined
import GoSem.ClaimMapViews
import Derived.JoinedTies
import Derived.KernelRfl
namespace Go.Proofs.Ytelmndpelgbboaa
/- THE CELL 'sum', in the pinned program and in every row, IS THE sha256 OF THE DUMP (.gsa) THAT YtelmndpelgbboaaProg.lean LOADS. Nothing in Lean hashes anything: it is a label: what it is worth is what the hold of that sum in a sandbox is worth. -/
noncomputable def Try.pinned : Pinned := { name := "ytelmndpelgbboaa", sum := "18041ed6a6198bebad208269a0629e7c13d36794f65dfb764238ff4fbc428fbb", checked := Try.checked }
namespace Rows
def none {H : Type} : Left H := { results := [], args := [] }

/-- 'covenantlaw21.ClientViews': WHATEVER THE INPUT: true; the input reads as it did. -/
def clientViewsSpec : ChangeSpec := { name := "clientViews", fn := fun _ => fun
  | [d1, d2] => { results := [.lit (.bool true)], args := [d1, d2] }
  | _ => none }
def clientViewsRow : OpenClaim := { program := "ytelmndpelgbboaa", sum := "18041ed6a6198bebad208269a0629e7c13d36794f65dfb764238ff4fbc428fbb", func := "covenant/covenantlaw21.ClientViews", spec := "clientViews", apart := false }
def ClientViewsSaid : Prop := clientViewsRow.holds Try.pinned (OpenSpec.ofChange clientViewsSpec)

/-- ITS FALSE NEIGHBOUR: 'it returns false'. Refute it at one input. -/
def clientViewsWrong : ChangeSpec := { name := "clientViews", fn := fun _ => fun
  | [d1, d2] => { results := [.lit (.bool false)], args := [d1, d2] }
  | _ => none }
def ClientViewsWrongFalsely : Prop := clientViewsRow.holds Try.pinned (OpenSpec.ofChange clientViewsWrong)

/-- 'covenantlaw21.ClientAgain': WHATEVER THE INPUT: true; the input reads as it did. -/
def clientAgainSpec : ChangeSpec := { name := "clientAgain", fn := fun _ => fun
  | [d1, d2, d3, d4] => { results := [.lit (.bool true)], args := [d1, d2, d3, d4] }
  | _ => none }
def clientAgainRow : OpenClaim := { program := "ytelmndpelgbboaa", sum := "18041ed6a6198bebad208269a0629e7c13d36794f65dfb764238ff4fbc428fbb", func := "covenant/covenantlaw21.ClientAgain", spec := "clientAgain", apart := false }
def ClientAgainSaid : Prop := clientAgainRow.holds Try.pinned (OpenSpec.ofChange clientAgainSpec)

/-- ITS FALSE NEIGHBOUR: 'it returns false'. Refute it at one input. -/
def clientAgainWrong : ChangeSpec := { name := "clientAgain", fn := fun _ => fun
  | [d1, d2, d3, d4] => { results := [.lit (.bool false)], args := [d1, d2, d3, d4] }
  | _ => none }
def ClientAgainWrongFalsely : Prop := clientAgainRow.holds Try.pinned (OpenSpec.ofChange clientAgainWrong)

/-- 'covenantlaw21.ClientPlays': WHATEVER THE INPUT: true; the input reads as it did. -/
def clientPlaysSpec : ChangeSpec := { name := "clientPlays", fn := fun _ => fun
  | [d1, d2, d3, d4, d5] => { results := [.lit (.bool true)], args := [d1, d2, d3, d4, d5] }
  | _ => none }
def clientPlaysRow : OpenClaim := { program := "ytelmndpelgbboaa", sum := "18041ed6a6198bebad208269a0629e7c13d36794f65dfb764238ff4fbc428fbb", func := "covenant/covenantlaw21.ClientPlays", spec := "clientPlays", apart := false }
def ClientPlaysSaid : Prop := clientPlaysRow.holds Try.pinned (OpenSpec.ofChange clientPlaysSpec)

/-- ITS FALSE NEIGHBOUR: 'it returns false'. Refute it at one input. -/
def clientPlaysWrong : ChangeSpec := { name := "clientPlays", fn := fun _ => fun
  | [d1, d2, d3, d4, d5] => { results := [.lit (.bool false)], args := [d1, d2, d3, d4, d5] }
  | _ => none }
def ClientPlaysWrongFalsely : Prop := clientPlaysRow.holds Try.pinned (OpenSpec.ofChange clientPlaysWrong)

/-- 'covenantlaw21.ClientOnce': WHATEVER THE INPUT: true; the input reads as it did. -/
def clientOnceSpec : ChangeSpec := { name := "clientOnce", fn := fun _ => fun
  | [d1, d2] => { results := [.lit (.bool true)], args := [d1, d2] }
  | _ => none }
def clientOnceRow : OpenClaim := { program := "ytelmndpelgbboaa", sum := "18041ed6a6198bebad208269a0629e7c13d36794f65dfb764238ff4fbc428fbb", func := "covenant/covenantlaw21.ClientOnce", spec := "clientOnce", apart := false }
def ClientOnceSaid : Prop := clientOnceRow.holds Try.pinned (OpenSpec.ofChange clientOnceSpec)

/-- ITS FALSE NEIGHBOUR: 'it returns false'. Refute it at one input. -/
def clientOnceWrong : ChangeSpec := { name := "clientOnce", fn := fun _ => fun
  | [d1, d2] => { results := [.lit (.bool false)], args := [d1, d2] }
  | _ => none }
def ClientOnceWrongFalsely : Prop := clientOnceRow.holds Try.pinned (OpenSpec.ofChange clientOnceWrong)

/- THE SECOND FORM. 'bulk': how many values and letters a reading holds, each counted each time it is reached (what is shared counts as often as it is met; a slice's spare places count too). A statement '..UptoSaid' is the law's where the arguments, and the package variables that the reading takes, are together of bulk at most 1048576: NARROWER than '..Said'. Prove '..Said' where nothing that the law and all that it calls make is longer than what came in: it says more and counts as full. Else prove '..UptoSaid'. A law counts once. -/
mutual
def uptoBulk {H : Type} : DataW H → Nat
  | .lit (.string bytes) => bytes.length + 1
  | .lit _ => 1
  | .nil => 1
  | .ptr d => uptoBulk d + 1
  | .slice elems spare => uptoBulkAll elems + uptoBulkAll spare + 1
  | .agg parts => uptoBulkAll parts + 1
  | .iface _ d => uptoBulk d + 1
  | .map entries => uptoBulkEntries entries + 1
  | .held _ => 1
def uptoBulkAll {H : Type} : List (DataW H) → Nat
  | [] => 0
  | d :: r => uptoBulk d + uptoBulkAll r
def uptoBulkEntries {H : Type} : List (Lit × DataW H) → Nat
  | [] => 0
  | x :: r => uptoBulkEntry x + uptoBulkEntries r
def uptoBulkEntry {H : Type} : Lit × DataW H → Nat
  | (.string bytes, d) => bytes.length + uptoBulk d + 1
  | (_, d) => uptoBulk d + 1
 end
def uptoSmall : (H : Type) → List (DataW H) → Bool := fun _ ds => decide (uptoBulkAll ds ≤ 1048576)
def OpenSpec.upto (s : _root_.Go.ChangeSpec) : _root_.Go.OpenSpec := { _root_.Go.OpenSpec.ofChange s with cond := some uptoSmall }

/-- 'covenantlaw21.ClientViews', WHERE WHAT IT READS IS OF BULK AT MOST 1048576: true; the input reads as it did. -/
def clientViewsUptoRow : OpenClaim := { program := "ytelmndpelgbboaa", sum := "18041ed6a6198bebad208269a0629e7c13d36794f65dfb764238ff4fbc428fbb", func := "covenant/covenantlaw21.ClientViews", spec := "clientViews", apart := false, narrowed := true }
def ClientViewsUptoSaid : Prop := clientViewsUptoRow.holds Try.pinned (OpenSpec.upto clientViewsSpec)

/-- 'covenantlaw21.ClientAgain', WHERE WHAT IT READS IS OF BULK AT MOST 1048576: true; the input reads as it did. -/
def clientAgainUptoRow : OpenClaim := { program := "ytelmndpelgbboaa", sum := "18041ed6a6198bebad208269a0629e7c13d36794f65dfb764238ff4fbc428fbb", func := "covenant/covenantlaw21.ClientAgain", spec := "clientAgain", apart := false, narrowed := true }
def ClientAgainUptoSaid : Prop := clientAgainUptoRow.holds Try.pinned (OpenSpec.upto clientAgainSpec)

/-- 'covenantlaw21.ClientPlays', WHERE WHAT IT READS IS OF BULK AT MOST 1048576: true; the input reads as it did. -/
def clientPlaysUptoRow : OpenClaim := { program := "ytelmndpelgbboaa", sum := "18041ed6a6198bebad208269a0629e7c13d36794f65dfb764238ff4fbc428fbb", func := "covenant/covenantlaw21.ClientPlays", spec := "clientPlays", apart := false, narrowed := true }
def ClientPlaysUptoSaid : Prop := clientPlaysUptoRow.holds Try.pinned (OpenSpec.upto clientPlaysSpec)

/-- 'covenantlaw21.ClientOnce', WHERE WHAT IT READS IS OF BULK AT MOST 1048576: true; the input reads as it did. -/
def clientOnceUptoRow : OpenClaim := { program := "ytelmndpelgbboaa", sum := "18041ed6a6198bebad208269a0629e7c13d36794f65dfb764238ff4fbc428fbb", func := "covenant/covenantlaw21.ClientOnce", spec := "clientOnce", apart := false, narrowed := true }
def ClientOnceUptoSaid : Prop := clientOnceUptoRow.holds Try.pinned (OpenSpec.upto clientOnceSpec)

end Rows
end Go.Proofs.Ytelmndpelgbboaa
