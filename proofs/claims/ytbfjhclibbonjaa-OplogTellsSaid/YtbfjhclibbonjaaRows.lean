/-
  No cell of these rows narrows 'for every input' (looked for: loops, veiled, ifaces, maps, wideKeys, modest, calm, conditions, laid).
  DERIVED. THE GIVEN ROWS OF THIS SEAT. 4 by the template 'for every input the law returns true; each argument reads behind the call as it read before'; 0 by the template 'total and deterministic' (their statements: YtbfjhclibbonjaaTotals.lean).
  GIVEN WITH THE SEED: the statements are not yours to turn. If you find one false, say at which input.
  Laid BY PROGRAM, IN A SANDBOX (cutbox-rows.mjs): the forced cells as the released guide's own fill.sh prints them over the translation f5971cb12487c216… (all of the seat's roots in one cut). By AI agents, Wed Nov 11 2026. No macro, syntax, notation, axiom, sorry.
-/
import Derived.Test.YtbfjhclibbonjaaChecked
import GoSem.Claim
import GoSem.ClaimJoined
import GoSem.ClaimMapViews
import Derived.JoinedTies
import Derived.KernelRfl
namespace Go.Proofs.Ytbfjhclibbonjaa
/- THE CELL 'sum', in the pinned program and in every row, IS THE sha256 OF THE DUMP (.gsa) THAT YtbfjhclibbonjaaProg.lean LOADS. Nothing in Lean hashes anything: it is a label: what it is worth is what the hold of that sum in a sandbox is worth. -/
noncomputable def Try.pinned : Pinned := { name := "ytbfjhclibbonjaa", sum := "f5971cb12487c2167cdf538143ef02207ad94b19191365fb134819c317ec9ea4", checked := Try.checked }
namespace Rows
def none {H : Type} : Left H := { results := [], args := [] }

/-- 'covenantlaw17.OplogRow': WHATEVER THE INPUT: true; the input reads as it did. -/
def oplogRowSpec : ChangeSpec := { name := "oplogRow", fn := fun _ => fun
  | [d1, d2, d3] => { results := [.lit (.bool true)], args := [d1, d2, d3] }
  | _ => none }
def oplogRowRow : OpenClaim := { program := "ytbfjhclibbonjaa", sum := "f5971cb12487c2167cdf538143ef02207ad94b19191365fb134819c317ec9ea4", func := "covenant/covenantlaw17.OplogRow", spec := "oplogRow", unfollowed := true, recurses := true, apart := false }
def OplogRowSaid : Prop := oplogRowRow.holds Try.pinned (OpenSpec.ofChange oplogRowSpec)

/-- ITS FALSE NEIGHBOUR: 'it returns false'. Refute it at one input. -/
def oplogRowWrong : ChangeSpec := { name := "oplogRow", fn := fun _ => fun
  | [d1, d2, d3] => { results := [.lit (.bool false)], args := [d1, d2, d3] }
  | _ => none }
def OplogRowWrongFalsely : Prop := oplogRowRow.holds Try.pinned (OpenSpec.ofChange oplogRowWrong)

/-- 'covenantlaw17.OplogFinds': WHATEVER THE INPUT: true; the input reads as it did. -/
def oplogFindsSpec : ChangeSpec := { name := "oplogFinds", fn := fun _ => fun
  | [d1, d2, d3] => { results := [.lit (.bool true)], args := [d1, d2, d3] }
  | _ => none }
def oplogFindsRow : OpenClaim := { program := "ytbfjhclibbonjaa", sum := "f5971cb12487c2167cdf538143ef02207ad94b19191365fb134819c317ec9ea4", func := "covenant/covenantlaw17.OplogFinds", spec := "oplogFinds", unfollowed := true, recurses := true, apart := false }
def OplogFindsSaid : Prop := oplogFindsRow.holds Try.pinned (OpenSpec.ofChange oplogFindsSpec)

/-- ITS FALSE NEIGHBOUR: 'it returns false'. Refute it at one input. -/
def oplogFindsWrong : ChangeSpec := { name := "oplogFinds", fn := fun _ => fun
  | [d1, d2, d3] => { results := [.lit (.bool false)], args := [d1, d2, d3] }
  | _ => none }
def OplogFindsWrongFalsely : Prop := oplogFindsRow.holds Try.pinned (OpenSpec.ofChange oplogFindsWrong)

/-- 'covenantlaw17.OplogTells': WHATEVER THE INPUT: true; the input reads as it did. -/
def oplogTellsSpec : ChangeSpec := { name := "oplogTells", fn := fun _ => fun
  | [d1, d2, d3] => { results := [.lit (.bool true)], args := [d1, d2, d3] }
  | _ => none }
def oplogTellsRow : OpenClaim := { program := "ytbfjhclibbonjaa", sum := "f5971cb12487c2167cdf538143ef02207ad94b19191365fb134819c317ec9ea4", func := "covenant/covenantlaw17.OplogTells", spec := "oplogTells", unfollowed := true, recurses := true, apart := false }
def OplogTellsSaid : Prop := oplogTellsRow.holds Try.pinned (OpenSpec.ofChange oplogTellsSpec)

/-- ITS FALSE NEIGHBOUR: 'it returns false'. Refute it at one input. -/
def oplogTellsWrong : ChangeSpec := { name := "oplogTells", fn := fun _ => fun
  | [d1, d2, d3] => { results := [.lit (.bool false)], args := [d1, d2, d3] }
  | _ => none }
def OplogTellsWrongFalsely : Prop := oplogTellsRow.holds Try.pinned (OpenSpec.ofChange oplogTellsWrong)

/-- 'covenantlaw17.OplogParts': WHATEVER THE INPUT: true; the input reads as it did. -/
def oplogPartsSpec : ChangeSpec := { name := "oplogParts", fn := fun _ => fun
  | [d1, d2, d3] => { results := [.lit (.bool true)], args := [d1, d2, d3] }
  | _ => none }
def oplogPartsRow : OpenClaim := { program := "ytbfjhclibbonjaa", sum := "f5971cb12487c2167cdf538143ef02207ad94b19191365fb134819c317ec9ea4", func := "covenant/covenantlaw17.OplogParts", spec := "oplogParts", unfollowed := true, recurses := true, apart := false }
def OplogPartsSaid : Prop := oplogPartsRow.holds Try.pinned (OpenSpec.ofChange oplogPartsSpec)

/-- ITS FALSE NEIGHBOUR: 'it returns false'. Refute it at one input. -/
def oplogPartsWrong : ChangeSpec := { name := "oplogParts", fn := fun _ => fun
  | [d1, d2, d3] => { results := [.lit (.bool false)], args := [d1, d2, d3] }
  | _ => none }
def OplogPartsWrongFalsely : Prop := oplogPartsRow.holds Try.pinned (OpenSpec.ofChange oplogPartsWrong)

/- THE SECOND FORM. 'bulk': how many values and letters a reading holds, each counted each time it is reached (what is shared counts as often as it is met; a slice's spare places count too). A statement '..UptoSaid' is the law's where the arguments, and the package variables that the reading takes, are together of bulk at most 1048576: NARROWER than '..Said'. Prove '..Said' where nothing that the law and all that it calls make is longer than what came in: it says more and counts as full. Else prove '..UptoSaid'. A law counts once. -/
mutual
def uptoBulk {H : Type} : DataW H → Nat
  | .lit (.string bytes) => bytes.length + 1
  | .lit _ => 1
  | .nil => 1
  | .ptr d => uptoBulk d + 1
  | .slice elems spare => uptoBulkAll elems + uptoBulkAll spare + 1
  | .agg parts => uptoBulkAll parts + 1
  | .iface _ d => uptoBulk d + 1
  | .map entries => uptoBulkEntries entries + 1
  | .held _ => 1
def uptoBulkAll {H : Type} : List (DataW H) → Nat
  | [] => 0
  | d :: r => uptoBulk d + uptoBulkAll r
def uptoBulkEntries {H : Type} : List (Lit × DataW H) → Nat
  | [] => 0
  | x :: r => uptoBulkEntry x + uptoBulkEntries r
def uptoBulkEntry {H : Type} : Lit × DataW H → Nat
  | (.string bytes, d) => bytes.length + uptoBulk d + 1
  | (_, d) => uptoBulk d + 1
 end
def uptoSmall : (H : Type) → List (DataW H) → Bool := fun _ ds => decide (uptoBulkAll ds ≤ 1048576)
def OpenSpec.upto (s : _root_.Go.ChangeSpec) : _root_.Go.OpenSpec := { _root_.Go.OpenSpec.ofChange s with cond := some uptoSmall }

/-- 'covenantlaw17.OplogRow', WHERE WHAT IT READS IS OF BULK AT MOST 1048576: true; the input reads as it did. -/
def oplogRowUptoRow : OpenClaim := { program := "ytbfjhclibbonjaa", sum := "f5971cb12487c2167cdf538143ef02207ad94b19191365fb134819c317ec9ea4", func := "covenant/covenantlaw17.OplogRow", spec := "oplogRow", unfollowed := true, recurses := true, apart := false, narrowed := true }
def OplogRowUptoSaid : Prop := oplogRowUptoRow.holds Try.pinned (OpenSpec.upto oplogRowSpec)

/-- 'covenantlaw17.OplogFinds', WHERE WHAT IT READS IS OF BULK AT MOST 1048576: true; the input reads as it did. -/
def oplogFindsUptoRow : OpenClaim := { program := "ytbfjhclibbonjaa", sum := "f5971cb12487c2167cdf538143ef02207ad94b19191365fb134819c317ec9ea4", func := "covenant/covenantlaw17.OplogFinds", spec := "oplogFinds", unfollowed := true, recurses := true, apart := false, narrowed := true }
def OplogFindsUptoSaid : Prop := oplogFindsUptoRow.holds Try.pinned (OpenSpec.upto oplogFindsSpec)

/-- 'covenantlaw17.OplogTells', WHERE WHAT IT READS IS OF BULK AT MOST 1048576: true; the input reads as it did. -/
def oplogTellsUptoRow : OpenClaim := { program := "ytbfjhclibbonjaa", sum := "f5971cb12487c2167cdf538143ef02207ad94b19191365fb134819c317ec9ea4", func := "covenant/covenantlaw17.OplogTells", spec := "oplogTells", unfollowed := true, recurses := true, apart := false, narrowed := true }
def OplogTellsUptoSaid : Prop := oplogTellsUptoRow.holds Try.pinned (OpenSpec.upto oplogTellsSpec)

/-- 'covenantlaw17.OplogParts', WHERE WHAT IT READS IS OF BULK AT MOST 1048576: true; the input reads as it did. -/
def oplogPartsUptoRow : OpenClaim := { program := "ytbfjhclibbonjaa", sum := "f5971cb12487c2167cdf538143ef02207ad94b19191365fb134819c317ec9ea4", func := "covenant/covenantlaw17.OplogParts", spec := "oplogParts", unfollowed := true, recurses := true, apart := false, narrowed := true }
def OplogPartsUptoSaid : Prop := oplogPartsUptoRow.holds Try.pinned (OpenSpec.upto oplogPartsSpec)

end Rows
end Go.Proofs.Ytbfjhclibbonjaa
