/-
  NARROWER THAN 'FOR EVERY INPUT', by the rows' own cells (each row's printed sentence says how): PostTells: laid · PostBack: laid · PostKept: laid · PostSpoilt: laid · PostSizes: laid · PostLimits: laid.
  DERIVED. THE GIVEN ROWS OF THIS SEAT. 6 by the template 'for every input the law returns true; each argument reads behind the call as it read before'; 0 by the template 'total and deterministic' (their statements: YtgkdnhbhmebmeaaDoorTotals.lean).
  GIVEN WITH THE SEED: the statements are not yours to turn. If you find one false, say at which input.
  Laid BY PROGRAM, IN A SANDBOX (cutbox-rows.mjs): the forced cells as the released guide's own fill.sh prints them over the translation 17bcba601533fcb5… (all of the seat's roots in one cut). By AI agents, Wed Nov 11 2026. No macro, syntax, notation, axiom, sorry.
-/
import Derived.Test.YtgkdnhbhmebmeaaDoorChecked
import GoSem.Claim
import GoSem.ClaimJoined
import GoSem.ClaimMapViews
import Derived.JoinedTies
import Derived.KernelRfl
namespace Go.Proofs.YtgkdnhbhmebmeaaDoor
/- THE CELL 'sum', in the pinned program and in every row, IS THE sha256 OF THE DUMP (.gsa) THAT YtgkdnhbhmebmeaaDoorProg.lean LOADS. Nothing in Lean hashes anything: it is a label: what it is worth is what the hold of that sum in a sandbox is worth. -/
noncomputable def Tryd.pinned : Pinned := { name := "ytgkdnhbhmebmeaadoor", sum := "17bcba601533fcb560bcdd4946ca38da2def47aeec178b9e99dc5f14c82f1f81", checked := Tryd.checked }
namespace Rows
def none {H : Type} : Left H := { results := [], args := [] }

/- WHAT THE LISTED PACKAGE-LEVEL VARIABLES READ AS WHEN THE CALL BEGINS. Each datum BY PROGRAM (the guide's laid-datum.mjs) off the statement by which the dump's own 'gosem.cut.vars' lays the variable. In a bare row this is a premise. The card (YtgkdnhbhmebmeaaDoorCards.lean) ties it to the program's text. -/
def laid_covenant_seal_four {H : Type} : DataW H := .agg [.lit (.int .u32 0), .lit (.int .u32 274646895), .lit (.int .u32 549293790), .lit (.int .u32 820201905), .lit (.int .u32 1098587580), .lit (.int .u32 1361435347), .lit (.int .u32 1640403810), .lit (.int .u32 1905808397), .lit (.int .u32 2197175160), .lit (.int .u32 2460548119), .lit (.int .u32 2722870694), .lit (.int .u32 2987750089), .lit (.int .u32 3280807620), .lit (.int .u32 3553878443), .lit (.int .u32 3811616794), .lit (.int .u32 4084100981)]

/-- 'covenantlaw22.PostTells': WHATEVER THE INPUT: true; the input reads as it did. -/
def postTellsSpec : ChangeSpec := { name := "postTells", fn := fun _ => fun
  | [d1, d2] => { results := [.lit (.bool true)], args := [d1, d2] }
  | _ => none }
def postTellsRow : OpenClaim := { program := "ytgkdnhbhmebmeaadoor", sum := "17bcba601533fcb560bcdd4946ca38da2def47aeec178b9e99dc5f14c82f1f81", func := "covenant/covenantlaw22.PostTells", spec := "postTells", unfollowed := true, recurses := true, named := ["covenant/seal.four"], apart := false, laid := [("covenant/seal.four", laid_covenant_seal_four)] }
def PostTellsSaid : Prop := postTellsRow.holds Tryd.pinned (OpenSpec.ofChange postTellsSpec)

/-- ITS FALSE NEIGHBOUR: 'it returns false'. Refute it at one input. -/
def postTellsWrong : ChangeSpec := { name := "postTells", fn := fun _ => fun
  | [d1, d2] => { results := [.lit (.bool false)], args := [d1, d2] }
  | _ => none }
def PostTellsWrongFalsely : Prop := postTellsRow.holds Tryd.pinned (OpenSpec.ofChange postTellsWrong)

/-- 'covenantlaw22.PostBack': WHATEVER THE INPUT: true; the input reads as it did. -/
def postBackSpec : ChangeSpec := { name := "postBack", fn := fun _ => fun
  | [d1, d2] => { results := [.lit (.bool true)], args := [d1, d2] }
  | _ => none }
def postBackRow : OpenClaim := { program := "ytgkdnhbhmebmeaadoor", sum := "17bcba601533fcb560bcdd4946ca38da2def47aeec178b9e99dc5f14c82f1f81", func := "covenant/covenantlaw22.PostBack", spec := "postBack", unfollowed := true, recurses := true, named := ["covenant/seal.four"], apart := false, laid := [("covenant/seal.four", laid_covenant_seal_four)] }
def PostBackSaid : Prop := postBackRow.holds Tryd.pinned (OpenSpec.ofChange postBackSpec)

/-- ITS FALSE NEIGHBOUR: 'it returns false'. Refute it at one input. -/
def postBackWrong : ChangeSpec := { name := "postBack", fn := fun _ => fun
  | [d1, d2] => { results := [.lit (.bool false)], args := [d1, d2] }
  | _ => none }
def PostBackWrongFalsely : Prop := postBackRow.holds Tryd.pinned (OpenSpec.ofChange postBackWrong)

/-- 'covenantlaw22.PostKept': WHATEVER THE INPUT: true; the input reads as it did. -/
def postKeptSpec : ChangeSpec := { name := "postKept", fn := fun _ => fun
  | [d] => { results := [.lit (.bool true)], args := [d] }
  | _ => none }
def postKeptRow : OpenClaim := { program := "ytgkdnhbhmebmeaadoor", sum := "17bcba601533fcb560bcdd4946ca38da2def47aeec178b9e99dc5f14c82f1f81", func := "covenant/covenantlaw22.PostKept", spec := "postKept", unfollowed := true, recurses := true, named := ["covenant/seal.four"], apart := false, laid := [("covenant/seal.four", laid_covenant_seal_four)] }
def PostKeptSaid : Prop := postKeptRow.holds Tryd.pinned (OpenSpec.ofChange postKeptSpec)

/-- ITS FALSE NEIGHBOUR: 'it returns false'. Refute it at one input. -/
def postKeptWrong : ChangeSpec := { name := "postKept", fn := fun _ => fun
  | [d] => { results := [.lit (.bool false)], args := [d] }
  | _ => none }
def PostKeptWrongFalsely : Prop := postKeptRow.holds Tryd.pinned (OpenSpec.ofChange postKeptWrong)

/-- 'covenantlaw22.PostSpoilt': WHATEVER THE INPUT: true; the input reads as it did. -/
def postSpoiltSpec : ChangeSpec := { name := "postSpoilt", fn := fun _ => fun
  | [d1, d2, d3] => { results := [.lit (.bool true)], args := [d1, d2, d3] }
  | _ => none }
def postSpoiltRow : OpenClaim := { program := "ytgkdnhbhmebmeaadoor", sum := "17bcba601533fcb560bcdd4946ca38da2def47aeec178b9e99dc5f14c82f1f81", func := "covenant/covenantlaw22.PostSpoilt", spec := "postSpoilt", unfollowed := true, recurses := true, named := ["covenant/seal.four"], apart := false, laid := [("covenant/seal.four", laid_covenant_seal_four)] }
def PostSpoiltSaid : Prop := postSpoiltRow.holds Tryd.pinned (OpenSpec.ofChange postSpoiltSpec)

/-- ITS FALSE NEIGHBOUR: 'it returns false'. Refute it at one input. -/
def postSpoiltWrong : ChangeSpec := { name := "postSpoilt", fn := fun _ => fun
  | [d1, d2, d3] => { results := [.lit (.bool false)], args := [d1, d2, d3] }
  | _ => none }
def PostSpoiltWrongFalsely : Prop := postSpoiltRow.holds Tryd.pinned (OpenSpec.ofChange postSpoiltWrong)

/-- 'covenantlaw22.PostSizes': WHATEVER THE INPUT: true; the input reads as it did. -/
def postSizesSpec : ChangeSpec := { name := "postSizes", fn := fun _ => fun
  | [d] => { results := [.lit (.bool true)], args := [d] }
  | _ => none }
def postSizesRow : OpenClaim := { program := "ytgkdnhbhmebmeaadoor", sum := "17bcba601533fcb560bcdd4946ca38da2def47aeec178b9e99dc5f14c82f1f81", func := "covenant/covenantlaw22.PostSizes", spec := "postSizes", unfollowed := true, recurses := true, named := ["covenant/seal.four"], apart := false, laid := [("covenant/seal.four", laid_covenant_seal_four)] }
def PostSizesSaid : Prop := postSizesRow.holds Tryd.pinned (OpenSpec.ofChange postSizesSpec)

/-- ITS FALSE NEIGHBOUR: 'it returns false'. Refute it at one input. -/
def postSizesWrong : ChangeSpec := { name := "postSizes", fn := fun _ => fun
  | [d] => { results := [.lit (.bool false)], args := [d] }
  | _ => none }
def PostSizesWrongFalsely : Prop := postSizesRow.holds Tryd.pinned (OpenSpec.ofChange postSizesWrong)

/-- 'covenantlaw22.PostLimits': WHATEVER THE INPUT: true; the input reads as it did. -/
def postLimitsSpec : ChangeSpec := { name := "postLimits", fn := fun _ => fun
  | [d] => { results := [.lit (.bool true)], args := [d] }
  | _ => none }
def postLimitsRow : OpenClaim := { program := "ytgkdnhbhmebmeaadoor", sum := "17bcba601533fcb560bcdd4946ca38da2def47aeec178b9e99dc5f14c82f1f81", func := "covenant/covenantlaw22.PostLimits", spec := "postLimits", unfollowed := true, recurses := true, named := ["covenant/seal.four"], apart := false, laid := [("covenant/seal.four", laid_covenant_seal_four)] }
def PostLimitsSaid : Prop := postLimitsRow.holds Tryd.pinned (OpenSpec.ofChange postLimitsSpec)

/-- ITS FALSE NEIGHBOUR: 'it returns false'. Refute it at one input. -/
def postLimitsWrong : ChangeSpec := { name := "postLimits", fn := fun _ => fun
  | [d] => { results := [.lit (.bool false)], args := [d] }
  | _ => none }
def PostLimitsWrongFalsely : Prop := postLimitsRow.holds Tryd.pinned (OpenSpec.ofChange postLimitsWrong)

/- THE SECOND FORM. 'bulk': how many values and letters a reading holds, each counted each time it is reached (what is shared counts as often as it is met; a slice's spare places count too). A statement '..UptoSaid' is the law's where the arguments, and the package variables that the reading takes, are together of bulk at most 1048576: NARROWER than '..Said'. Prove '..Said' where nothing that the law and all that it calls make is longer than what came in: it says more and counts as full. Else prove '..UptoSaid'. A law counts once. -/
mutual
def uptoBulk {H : Type} : DataW H → Nat
  | .lit (.string bytes) => bytes.length + 1
  | .lit _ => 1
  | .nil => 1
  | .ptr d => uptoBulk d + 1
  | .slice elems spare => uptoBulkAll elems + uptoBulkAll spare + 1
  | .agg parts => uptoBulkAll parts + 1
  | .iface _ d => uptoBulk d + 1
  | .map entries => uptoBulkEntries entries + 1
  | .held _ => 1
def uptoBulkAll {H : Type} : List (DataW H) → Nat
  | [] => 0
  | d :: r => uptoBulk d + uptoBulkAll r
def uptoBulkEntries {H : Type} : List (Lit × DataW H) → Nat
  | [] => 0
  | x :: r => uptoBulkEntry x + uptoBulkEntries r
def uptoBulkEntry {H : Type} : Lit × DataW H → Nat
  | (.string bytes, d) => bytes.length + uptoBulk d + 1
  | (_, d) => uptoBulk d + 1
 end
def uptoSmall : (H : Type) → List (DataW H) → Bool := fun _ ds => decide (uptoBulkAll ds ≤ 1048576)
def OpenSpec.upto (s : _root_.Go.ChangeSpec) : _root_.Go.OpenSpec := { _root_.Go.OpenSpec.ofChange s with cond := some uptoSmall }

/-- 'covenantlaw22.PostTells', WHERE WHAT IT READS IS OF BULK AT MOST 1048576: true; the input reads as it did. -/
def postTellsUptoRow : OpenClaim := { program := "ytgkdnhbhmebmeaadoor", sum := "17bcba601533fcb560bcdd4946ca38da2def47aeec178b9e99dc5f14c82f1f81", func := "covenant/covenantlaw22.PostTells", spec := "postTells", unfollowed := true, recurses := true, named := ["covenant/seal.four"], apart := false, laid := [("covenant/seal.four", laid_covenant_seal_four)], narrowed := true }
def PostTellsUptoSaid : Prop := postTellsUptoRow.holds Tryd.pinned (OpenSpec.upto postTellsSpec)

/-- 'covenantlaw22.PostBack', WHERE WHAT IT READS IS OF BULK AT MOST 1048576: true; the input reads as it did. -/
def postBackUptoRow : OpenClaim := { program := "ytgkdnhbhmebmeaadoor", sum := "17bcba601533fcb560bcdd4946ca38da2def47aeec178b9e99dc5f14c82f1f81", func := "covenant/covenantlaw22.PostBack", spec := "postBack", unfollowed := true, recurses := true, named := ["covenant/seal.four"], apart := false, laid := [("covenant/seal.four", laid_covenant_seal_four)], narrowed := true }
def PostBackUptoSaid : Prop := postBackUptoRow.holds Tryd.pinned (OpenSpec.upto postBackSpec)

/-- 'covenantlaw22.PostKept', WHERE WHAT IT READS IS OF BULK AT MOST 1048576: true; the input reads as it did. -/
def postKeptUptoRow : OpenClaim := { program := "ytgkdnhbhmebmeaadoor", sum := "17bcba601533fcb560bcdd4946ca38da2def47aeec178b9e99dc5f14c82f1f81", func := "covenant/covenantlaw22.PostKept", spec := "postKept", unfollowed := true, recurses := true, named := ["covenant/seal.four"], apart := false, laid := [("covenant/seal.four", laid_covenant_seal_four)], narrowed := true }
def PostKeptUptoSaid : Prop := postKeptUptoRow.holds Tryd.pinned (OpenSpec.upto postKeptSpec)

/-- 'covenantlaw22.PostSpoilt', WHERE WHAT IT READS IS OF BULK AT MOST 1048576: true; the input reads as it did. -/
def postSpoiltUptoRow : OpenClaim := { program := "ytgkdnhbhmebmeaadoor", sum := "17bcba601533fcb560bcdd4946ca38da2def47aeec178b9e99dc5f14c82f1f81", func := "covenant/covenantlaw22.PostSpoilt", spec := "postSpoilt", unfollowed := true, recurses := true, named := ["covenant/seal.four"], apart := false, laid := [("covenant/seal.four", laid_covenant_seal_four)], narrowed := true }
def PostSpoiltUptoSaid : Prop := postSpoiltUptoRow.holds Tryd.pinned (OpenSpec.upto postSpoiltSpec)

/-- 'covenantlaw22.PostSizes', WHERE WHAT IT READS IS OF BULK AT MOST 1048576: true; the input reads as it did. -/
def postSizesUptoRow : OpenClaim := { program := "ytgkdnhbhmebmeaadoor", sum := "17bcba601533fcb560bcdd4946ca38da2def47aeec178b9e99dc5f14c82f1f81", func := "covenant/covenantlaw22.PostSizes", spec := "postSizes", unfollowed := true, recurses := true, named := ["covenant/seal.four"], apart := false, laid := [("covenant/seal.four", laid_covenant_seal_four)], narrowed := true }
def PostSizesUptoSaid : Prop := postSizesUptoRow.holds Tryd.pinned (OpenSpec.upto postSizesSpec)

/-- 'covenantlaw22.PostLimits', WHERE WHAT IT READS IS OF BULK AT MOST 1048576: true; the input reads as it did. -/
def postLimitsUptoRow : OpenClaim := { program := "ytgkdnhbhmebmeaadoor", sum := "17bcba601533fcb560bcdd4946ca38da2def47aeec178b9e99dc5f14c82f1f81", func := "covenant/covenantlaw22.PostLimits", spec := "postLimits", unfollowed := true, recurses := true, named := ["covenant/seal.four"], apart := false, laid := [("covenant/seal.four", laid_covenant_seal_four)], narrowed := true }
def PostLimitsUptoSaid : Prop := postLimitsUptoRow.holds Tryd.pinned (OpenSpec.upto postLimitsSpec)

end Rows
end Go.Proofs.YtgkdnhbhmebmeaaDoor
