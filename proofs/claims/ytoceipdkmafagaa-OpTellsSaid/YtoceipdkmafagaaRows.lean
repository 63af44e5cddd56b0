/-
  No cell of these rows narrows 'for every input' (looked for: loops, veiled, ifaces, maps, wideKeys, modest, calm, conditions, laid).
  DERIVED. THE GIVEN ROWS OF THIS SEAT. 6 by the template 'for every input the law returns true; each argument reads behind the call as it read before'; 0 by the template 'total and deterministic' (their statements: YtoceipdkmafagaaTotals.lean).
  GIVEN WITH THE SEED: the statements are not yours to turn. If you find one false, say at which input.
  Laid BY PROGRAM, IN A SANDBOX (cutbox-rows.mjs): the forced cells as the released guide's own fill.sh prints them over the translation 5641a4f57b5d971c… (all of the seat's roots in one cut). By AI agents, Wed Nov 11 2026. No macro, syntax, notation, axiom, sorry.
-/
import Derived.Test.YtoceipdkmafagaaChecked
import GoSem.Claim
import GoSem.ClaimJoined
import GoSem.ClaimMapViews
import Derived.JoinedTies
import Derived.KernelRfl
namespace Go.Proofs.Ytoceipdkmafagaa
/- THE CELL 'sum', in the pinned program and in every row, IS THE sha256 OF THE DUMP (.gsa) THAT YtoceipdkmafagaaProg.lean LOADS. Nothing in Lean hashes anything: it is a label: what it is worth is what the hold of that sum in a sandbox is worth. -/
noncomputable def Try.pinned : Pinned := { name := "ytoceipdkmafagaa", sum := "5641a4f57b5d971cd5abc2cf28a9d24007b558e0b62b25864eda3d396e7898a1", checked := Try.checked }
namespace Rows
def none {H : Type} : Left H := { results := [], args := [] }

/-- 'covenantlaw15.OpSizes': WHATEVER THE INPUT: true; the input reads as it did. -/
def opSizesSpec : ChangeSpec := { name := "opSizes", fn := fun _ => fun
  | [d1, d2] => { results := [.lit (.bool true)], args := [d1, d2] }
  | _ => none }
def opSizesRow : OpenClaim := { program := "ytoceipdkmafagaa", sum := "5641a4f57b5d971cd5abc2cf28a9d24007b558e0b62b25864eda3d396e7898a1", func := "covenant/covenantlaw15.OpSizes", spec := "opSizes", unfollowed := true, recurses := true, apart := false }
def OpSizesSaid : Prop := opSizesRow.holds Try.pinned (OpenSpec.ofChange opSizesSpec)

/-- ITS FALSE NEIGHBOUR: 'it returns false'. Refute it at one input. -/
def opSizesWrong : ChangeSpec := { name := "opSizes", fn := fun _ => fun
  | [d1, d2] => { results := [.lit (.bool false)], args := [d1, d2] }
  | _ => none }
def OpSizesWrongFalsely : Prop := opSizesRow.holds Try.pinned (OpenSpec.ofChange opSizesWrong)

/-- 'covenantlaw15.OpLimits': WHATEVER THE INPUT: true; the input reads as it did. -/
def opLimitsSpec : ChangeSpec := { name := "opLimits", fn := fun _ => fun
  | [d] => { results := [.lit (.bool true)], args := [d] }
  | _ => none }
def opLimitsRow : OpenClaim := { program := "ytoceipdkmafagaa", sum := "5641a4f57b5d971cd5abc2cf28a9d24007b558e0b62b25864eda3d396e7898a1", func := "covenant/covenantlaw15.OpLimits", spec := "opLimits", unfollowed := true, recurses := true, apart := false }
def OpLimitsSaid : Prop := opLimitsRow.holds Try.pinned (OpenSpec.ofChange opLimitsSpec)

/-- ITS FALSE NEIGHBOUR: 'it returns false'. Refute it at one input. -/
def opLimitsWrong : ChangeSpec := { name := "opLimits", fn := fun _ => fun
  | [d] => { results := [.lit (.bool false)], args := [d] }
  | _ => none }
def OpLimitsWrongFalsely : Prop := opLimitsRow.holds Try.pinned (OpenSpec.ofChange opLimitsWrong)

/-- 'covenantlaw15.OpTells': WHATEVER THE INPUT: true; the input reads as it did. -/
def opTellsSpec : ChangeSpec := { name := "opTells", fn := fun _ => fun
  | [d1, d2, d3] => { results := [.lit (.bool true)], args := [d1, d2, d3] }
  | _ => none }
def opTellsRow : OpenClaim := { program := "ytoceipdkmafagaa", sum := "5641a4f57b5d971cd5abc2cf28a9d24007b558e0b62b25864eda3d396e7898a1", func := "covenant/covenantlaw15.OpTells", spec := "opTells", unfollowed := true, recurses := true, apart := false }
def OpTellsSaid : Prop := opTellsRow.holds Try.pinned (OpenSpec.ofChange opTellsSpec)

/-- ITS FALSE NEIGHBOUR: 'it returns false'. Refute it at one input. -/
def opTellsWrong : ChangeSpec := { name := "opTells", fn := fun _ => fun
  | [d1, d2, d3] => { results := [.lit (.bool false)], args := [d1, d2, d3] }
  | _ => none }
def OpTellsWrongFalsely : Prop := opTellsRow.holds Try.pinned (OpenSpec.ofChange opTellsWrong)

/-- 'covenantlaw15.OpBack': WHATEVER THE INPUT: true; the input reads as it did. -/
def opBackSpec : ChangeSpec := { name := "opBack", fn := fun _ => fun
  | [d1, d2, d3, d4] => { results := [.lit (.bool true)], args := [d1, d2, d3, d4] }
  | _ => none }
def opBackRow : OpenClaim := { program := "ytoceipdkmafagaa", sum := "5641a4f57b5d971cd5abc2cf28a9d24007b558e0b62b25864eda3d396e7898a1", func := "covenant/covenantlaw15.OpBack", spec := "opBack", unfollowed := true, recurses := true, apart := false }
def OpBackSaid : Prop := opBackRow.holds Try.pinned (OpenSpec.ofChange opBackSpec)

/-- ITS FALSE NEIGHBOUR: 'it returns false'. Refute it at one input. -/
def opBackWrong : ChangeSpec := { name := "opBack", fn := fun _ => fun
  | [d1, d2, d3, d4] => { results := [.lit (.bool false)], args := [d1, d2, d3, d4] }
  | _ => none }
def OpBackWrongFalsely : Prop := opBackRow.holds Try.pinned (OpenSpec.ofChange opBackWrong)

/-- 'covenantlaw15.OpKept': WHATEVER THE INPUT: true; the input reads as it did. -/
def opKeptSpec : ChangeSpec := { name := "opKept", fn := fun _ => fun
  | [d] => { results := [.lit (.bool true)], args := [d] }
  | _ => none }
def opKeptRow : OpenClaim := { program := "ytoceipdkmafagaa", sum := "5641a4f57b5d971cd5abc2cf28a9d24007b558e0b62b25864eda3d396e7898a1", func := "covenant/covenantlaw15.OpKept", spec := "opKept", unfollowed := true, recurses := true, apart := false }
def OpKeptSaid : Prop := opKeptRow.holds Try.pinned (OpenSpec.ofChange opKeptSpec)

/-- ITS FALSE NEIGHBOUR: 'it returns false'. Refute it at one input. -/
def opKeptWrong : ChangeSpec := { name := "opKept", fn := fun _ => fun
  | [d] => { results := [.lit (.bool false)], args := [d] }
  | _ => none }
def OpKeptWrongFalsely : Prop := opKeptRow.holds Try.pinned (OpenSpec.ofChange opKeptWrong)

/-- 'covenantlaw15.OpCuts': WHATEVER THE INPUT: true; the input reads as it did. -/
def opCutsSpec : ChangeSpec := { name := "opCuts", fn := fun _ => fun
  | [d1, d2, d3] => { results := [.lit (.bool true)], args := [d1, d2, d3] }
  | _ => none }
def opCutsRow : OpenClaim := { program := "ytoceipdkmafagaa", sum := "5641a4f57b5d971cd5abc2cf28a9d24007b558e0b62b25864eda3d396e7898a1", func := "covenant/covenantlaw15.OpCuts", spec := "opCuts", unfollowed := true, recurses := true, apart := false }
def OpCutsSaid : Prop := opCutsRow.holds Try.pinned (OpenSpec.ofChange opCutsSpec)

/-- ITS FALSE NEIGHBOUR: 'it returns false'. Refute it at one input. -/
def opCutsWrong : ChangeSpec := { name := "opCuts", fn := fun _ => fun
  | [d1, d2, d3] => { results := [.lit (.bool false)], args := [d1, d2, d3] }
  | _ => none }
def OpCutsWrongFalsely : Prop := opCutsRow.holds Try.pinned (OpenSpec.ofChange opCutsWrong)

/- THE SECOND FORM. 'bulk': how many values and letters a reading holds, each counted each time it is reached (what is shared counts as often as it is met; a slice's spare places count too). A statement '..UptoSaid' is the law's where the arguments, and the package variables that the reading takes, are together of bulk at most 1048576: NARROWER than '..Said'. Prove '..Said' where nothing that the law and all that it calls make is longer than what came in: it says more and counts as full. Else prove '..UptoSaid'. A law counts once. -/
mutual
def uptoBulk {H : Type} : DataW H → Nat
  | .lit (.string bytes) => bytes.length + 1
  | .lit _ => 1
  | .nil => 1
  | .ptr d => uptoBulk d + 1
  | .slice elems spare => uptoBulkAll elems + uptoBulkAll spare + 1
  | .agg parts => uptoBulkAll parts + 1
  | .iface _ d => uptoBulk d + 1
  | .map entries => uptoBulkEntries entries + 1
  | .held _ => 1
def uptoBulkAll {H : Type} : List (DataW H) → Nat
  | [] => 0
  | d :: r => uptoBulk d + uptoBulkAll r
def uptoBulkEntries {H : Type} : List (Lit × DataW H) → Nat
  | [] => 0
  | x :: r => uptoBulkEntry x + uptoBulkEntries r
def uptoBulkEntry {H : Type} : Lit × DataW H → Nat
  | (.string bytes, d) => bytes.length + uptoBulk d + 1
  | (_, d) => uptoBulk d + 1
 end
def uptoSmall : (H : Type) → List (DataW H) → Bool := fun _ ds => decide (uptoBulkAll ds ≤ 1048576)
def OpenSpec.upto (s : _root_.Go.ChangeSpec) : _root_.Go.OpenSpec := { _root_.Go.OpenSpec.ofChange s with cond := some uptoSmall }

/-- 'covenantlaw15.OpSizes', WHERE WHAT IT READS IS OF BULK AT MOST 1048576: true; the input reads as it did. -/
def opSizesUptoRow : OpenClaim := { program := "ytoceipdkmafagaa", sum := "5641a4f57b5d971cd5abc2cf28a9d24007b558e0b62b25864eda3d396e7898a1", func := "covenant/covenantlaw15.OpSizes", spec := "opSizes", unfollowed := true, recurses := true, apart := false, narrowed := true }
def OpSizesUptoSaid : Prop := opSizesUptoRow.holds Try.pinned (OpenSpec.upto opSizesSpec)

/-- 'covenantlaw15.OpLimits', WHERE WHAT IT READS IS OF BULK AT MOST 1048576: true; the input reads as it did. -/
def opLimitsUptoRow : OpenClaim := { program := "ytoceipdkmafagaa", sum := "5641a4f57b5d971cd5abc2cf28a9d24007b558e0b62b25864eda3d396e7898a1", func := "covenant/covenantlaw15.OpLimits", spec := "opLimits", unfollowed := true, recurses := true, apart := false, narrowed := true }
def OpLimitsUptoSaid : Prop := opLimitsUptoRow.holds Try.pinned (OpenSpec.upto opLimitsSpec)

/-- 'covenantlaw15.OpTells', WHERE WHAT IT READS IS OF BULK AT MOST 1048576: true; the input reads as it did. -/
def opTellsUptoRow : OpenClaim := { program := "ytoceipdkmafagaa", sum := "5641a4f57b5d971cd5abc2cf28a9d24007b558e0b62b25864eda3d396e7898a1", func := "covenant/covenantlaw15.OpTells", spec := "opTells", unfollowed := true, recurses := true, apart := false, narrowed := true }
def OpTellsUptoSaid : Prop := opTellsUptoRow.holds Try.pinned (OpenSpec.upto opTellsSpec)

/-- 'covenantlaw15.OpBack', WHERE WHAT IT READS IS OF BULK AT MOST 1048576: true; the input reads as it did. -/
def opBackUptoRow : OpenClaim := { program := "ytoceipdkmafagaa", sum := "5641a4f57b5d971cd5abc2cf28a9d24007b558e0b62b25864eda3d396e7898a1", func := "covenant/covenantlaw15.OpBack", spec := "opBack", unfollowed := true, recurses := true, apart := false, narrowed := true }
def OpBackUptoSaid : Prop := opBackUptoRow.holds Try.pinned (OpenSpec.upto opBackSpec)

/-- 'covenantlaw15.OpKept', WHERE WHAT IT READS IS OF BULK AT MOST 1048576: true; the input reads as it did. -/
def opKeptUptoRow : OpenClaim := { program := "ytoceipdkmafagaa", sum := "5641a4f57b5d971cd5abc2cf28a9d24007b558e0b62b25864eda3d396e7898a1", func := "covenant/covenantlaw15.OpKept", spec := "opKept", unfollowed := true, recurses := true, apart := false, narrowed := true }
def OpKeptUptoSaid : Prop := opKeptUptoRow.holds Try.pinned (OpenSpec.upto opKeptSpec)

/-- 'covenantlaw15.OpCuts', WHERE WHAT IT READS IS OF BULK AT MOST 1048576: true; the input reads as it did. -/
def opCutsUptoRow : OpenClaim := { program := "ytoceipdkmafagaa", sum := "5641a4f57b5d971cd5abc2cf28a9d24007b558e0b62b25864eda3d396e7898a1", func := "covenant/covenantlaw15.OpCuts", spec := "opCuts", unfollowed := true, recurses := true, apart := false, narrowed := true }
def OpCutsUptoSaid : Prop := opCutsUptoRow.holds Try.pinned (OpenSpec.upto opCutsSpec)

end Rows
end Go.Proofs.Ytoceipdkmafagaa
