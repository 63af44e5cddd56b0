/-
  No cell of these rows narrows 'for every input' (looked for: loops, veiled, ifaces, maps, wideKeys, modest, calm, conditions, laid).
  DERIVED. THE GIVEN ROWS OF THIS SEAT. 5 by the template 'for every input the law returns true; each argument reads behind the call as it read before'; 0 by the template 'total and deterministic' (their statements: YtkmeoobbjdbhjaaTotals.lean).
  GIVEN WITH THE SEED: the statements are not yours to turn. If you find one false, say at which input.
  Laid BY PROGRAM, IN A SANDBOX (cutbox-rows.mjs): the forced cells as the released guide's own fill.sh prints them over the translation c0f2ffa0320c1004… (all of the seat's roots in one cut). By AI agents, Wed Nov 11 2026. No macro, syntax, notation, axiom, sorry.
-/
import Derived.Test.YtkmeoobbjdbhjaaChecked
import GoSem.Claim
import GoSem.ClaimJoined
import GoSem.ClaimMapViews
import Derived.JoinedTies
import Derived.KernelRfl
namespace Go.Proofs.Ytkmeoobbjdbhjaa
/- THE CELL 'sum', in the pinned program and in every row, IS THE sha256 OF THE DUMP (.gsa) THAT YtkmeoobbjdbhjaaProg.lean LOADS. Nothing in Lean hashes anything: it is a label: what it is worth is what the hold of that sum in a sandbox is worth. -/
noncomputable def Try.pinned : Pinned := { name := "ytkmeoobbjdbhjaa", sum := "c0f2ffa0320c1004cbb55cc5ddc63aadacc6e7b95feeded90d675093370b5e74", checked := Try.checked }
namespace Rows
def none {H : Type} : Left H := { results := [], args := [] }

/-- 'covenantlaw07.StoreOrder': WHATEVER THE INPUT: true; the input reads as it did. -/
def storeOrderSpec : ChangeSpec := { name := "storeOrder", fn := fun _ => fun
  | [d1, d2, d3, d4, d5] => { results := [.lit (.bool true)], args := [d1, d2, d3, d4, d5] }
  | _ => none }
def storeOrderRow : OpenClaim := { program := "ytkmeoobbjdbhjaa", sum := "c0f2ffa0320c1004cbb55cc5ddc63aadacc6e7b95feeded90d675093370b5e74", func := "covenant/covenantlaw07.StoreOrder", spec := "storeOrder", inPlace := ["internal/bytealg.Compare"], unfollowed := true, recurses := true, apart := false }
def StoreOrderSaid : Prop := storeOrderRow.holds Try.pinned (OpenSpec.ofChange storeOrderSpec)

/-- ITS FALSE NEIGHBOUR: 'it returns false'. Refute it at one input. -/
def storeOrderWrong : ChangeSpec := { name := "storeOrder", fn := fun _ => fun
  | [d1, d2, d3, d4, d5] => { results := [.lit (.bool false)], args := [d1, d2, d3, d4, d5] }
  | _ => none }
def StoreOrderWrongFalsely : Prop := storeOrderRow.holds Try.pinned (OpenSpec.ofChange storeOrderWrong)

/-- 'covenantlaw07.StorePuts': WHATEVER THE INPUT: true; the input reads as it did. -/
def storePutsSpec : ChangeSpec := { name := "storePuts", fn := fun _ => fun
  | [d1, d2, d3, d4] => { results := [.lit (.bool true)], args := [d1, d2, d3, d4] }
  | _ => none }
def storePutsRow : OpenClaim := { program := "ytkmeoobbjdbhjaa", sum := "c0f2ffa0320c1004cbb55cc5ddc63aadacc6e7b95feeded90d675093370b5e74", func := "covenant/covenantlaw07.StorePuts", spec := "storePuts", inPlace := ["internal/bytealg.Compare"], unfollowed := true, recurses := true, apart := false }
def StorePutsSaid : Prop := storePutsRow.holds Try.pinned (OpenSpec.ofChange storePutsSpec)

/-- ITS FALSE NEIGHBOUR: 'it returns false'. Refute it at one input. -/
def storePutsWrong : ChangeSpec := { name := "storePuts", fn := fun _ => fun
  | [d1, d2, d3, d4] => { results := [.lit (.bool false)], args := [d1, d2, d3, d4] }
  | _ => none }
def StorePutsWrongFalsely : Prop := storePutsRow.holds Try.pinned (OpenSpec.ofChange storePutsWrong)

/-- 'covenantlaw07.StoreSizes': WHATEVER THE INPUT: true; the input reads as it did. -/
def storeSizesSpec : ChangeSpec := { name := "storeSizes", fn := fun _ => fun
  | [d1, d2, d3] => { results := [.lit (.bool true)], args := [d1, d2, d3] }
  | _ => none }
def storeSizesRow : OpenClaim := { program := "ytkmeoobbjdbhjaa", sum := "c0f2ffa0320c1004cbb55cc5ddc63aadacc6e7b95feeded90d675093370b5e74", func := "covenant/covenantlaw07.StoreSizes", spec := "storeSizes", inPlace := ["internal/bytealg.Compare"], unfollowed := true, recurses := true, apart := false }
def StoreSizesSaid : Prop := storeSizesRow.holds Try.pinned (OpenSpec.ofChange storeSizesSpec)

/-- ITS FALSE NEIGHBOUR: 'it returns false'. Refute it at one input. -/
def storeSizesWrong : ChangeSpec := { name := "storeSizes", fn := fun _ => fun
  | [d1, d2, d3] => { results := [.lit (.bool false)], args := [d1, d2, d3] }
  | _ => none }
def StoreSizesWrongFalsely : Prop := storeSizesRow.holds Try.pinned (OpenSpec.ofChange storeSizesWrong)

/-- 'covenantlaw07.StoreBack': WHATEVER THE INPUT: true; the input reads as it did. -/
def storeBackSpec : ChangeSpec := { name := "storeBack", fn := fun _ => fun
  | [d1, d2, d3] => { results := [.lit (.bool true)], args := [d1, d2, d3] }
  | _ => none }
def storeBackRow : OpenClaim := { program := "ytkmeoobbjdbhjaa", sum := "c0f2ffa0320c1004cbb55cc5ddc63aadacc6e7b95feeded90d675093370b5e74", func := "covenant/covenantlaw07.StoreBack", spec := "storeBack", inPlace := ["internal/bytealg.Compare"], unfollowed := true, recurses := true, apart := false }
def StoreBackSaid : Prop := storeBackRow.holds Try.pinned (OpenSpec.ofChange storeBackSpec)

/-- ITS FALSE NEIGHBOUR: 'it returns false'. Refute it at one input. -/
def storeBackWrong : ChangeSpec := { name := "storeBack", fn := fun _ => fun
  | [d1, d2, d3] => { results := [.lit (.bool false)], args := [d1, d2, d3] }
  | _ => none }
def StoreBackWrongFalsely : Prop := storeBackRow.holds Try.pinned (OpenSpec.ofChange storeBackWrong)

/-- 'covenantlaw07.StoreTells': WHATEVER THE INPUT: true; the input reads as it did. -/
def storeTellsSpec : ChangeSpec := { name := "storeTells", fn := fun _ => fun
  | [d1, d2, d3, d4] => { results := [.lit (.bool true)], args := [d1, d2, d3, d4] }
  | _ => none }
def storeTellsRow : OpenClaim := { program := "ytkmeoobbjdbhjaa", sum := "c0f2ffa0320c1004cbb55cc5ddc63aadacc6e7b95feeded90d675093370b5e74", func := "covenant/covenantlaw07.StoreTells", spec := "storeTells", inPlace := ["internal/bytealg.Compare"], unfollowed := true, recurses := true, apart := false }
def StoreTellsSaid : Prop := storeTellsRow.holds Try.pinned (OpenSpec.ofChange storeTellsSpec)

/-- ITS FALSE NEIGHBOUR: 'it returns false'. Refute it at one input. -/
def storeTellsWrong : ChangeSpec := { name := "storeTells", fn := fun _ => fun
  | [d1, d2, d3, d4] => { results := [.lit (.bool false)], args := [d1, d2, d3, d4] }
  | _ => none }
def StoreTellsWrongFalsely : Prop := storeTellsRow.holds Try.pinned (OpenSpec.ofChange storeTellsWrong)

/- THE SECOND FORM. 'bulk': how many values and letters a reading holds, each counted each time it is reached (what is shared counts as often as it is met; a slice's spare places count too). A statement '..UptoSaid' is the law's where the arguments, and the package variables that the reading takes, are together of bulk at most 1048576: NARROWER than '..Said'. Prove '..Said' where nothing that the law and all that it calls make is longer than what came in: it says more and counts as full. Else prove '..UptoSaid'. A law counts once. -/
mutual
def uptoBulk {H : Type} : DataW H → Nat
  | .lit (.string bytes) => bytes.length + 1
  | .lit _ => 1
  | .nil => 1
  | .ptr d => uptoBulk d + 1
  | .slice elems spare => uptoBulkAll elems + uptoBulkAll spare + 1
  | .agg parts => uptoBulkAll parts + 1
  | .iface _ d => uptoBulk d + 1
  | .map entries => uptoBulkEntries entries + 1
  | .held _ => 1
def uptoBulkAll {H : Type} : List (DataW H) → Nat
  | [] => 0
  | d :: r => uptoBulk d + uptoBulkAll r
def uptoBulkEntries {H : Type} : List (Lit × DataW H) → Nat
  | [] => 0
  | x :: r => uptoBulkEntry x + uptoBulkEntries r
def uptoBulkEntry {H : Type} : Lit × DataW H → Nat
  | (.string bytes, d) => bytes.length + uptoBulk d + 1
  | (_, d) => uptoBulk d + 1
 end
def uptoSmall : (H : Type) → List (DataW H) → Bool := fun _ ds => decide (uptoBulkAll ds ≤ 1048576)
def OpenSpec.upto (s : _root_.Go.ChangeSpec) : _root_.Go.OpenSpec := { _root_.Go.OpenSpec.ofChange s with cond := some uptoSmall }

/-- 'covenantlaw07.StoreOrder', WHERE WHAT IT READS IS OF BULK AT MOST 1048576: true; the input reads as it did. -/
def storeOrderUptoRow : OpenClaim := { program := "ytkmeoobbjdbhjaa", sum := "c0f2ffa0320c1004cbb55cc5ddc63aadacc6e7b95feeded90d675093370b5e74", func := "covenant/covenantlaw07.StoreOrder", spec := "storeOrder", inPlace := ["internal/bytealg.Compare"], unfollowed := true, recurses := true, apart := false, narrowed := true }
def StoreOrderUptoSaid : Prop := storeOrderUptoRow.holds Try.pinned (OpenSpec.upto storeOrderSpec)

/-- 'covenantlaw07.StorePuts', WHERE WHAT IT READS IS OF BULK AT MOST 1048576: true; the input reads as it did. -/
def storePutsUptoRow : OpenClaim := { program := "ytkmeoobbjdbhjaa", sum := "c0f2ffa0320c1004cbb55cc5ddc63aadacc6e7b95feeded90d675093370b5e74", func := "covenant/covenantlaw07.StorePuts", spec := "storePuts", inPlace := ["internal/bytealg.Compare"], unfollowed := true, recurses := true, apart := false, narrowed := true }
def StorePutsUptoSaid : Prop := storePutsUptoRow.holds Try.pinned (OpenSpec.upto storePutsSpec)

/-- 'covenantlaw07.StoreSizes', WHERE WHAT IT READS IS OF BULK AT MOST 1048576: true; the input reads as it did. -/
def storeSizesUptoRow : OpenClaim := { program := "ytkmeoobbjdbhjaa", sum := "c0f2ffa0320c1004cbb55cc5ddc63aadacc6e7b95feeded90d675093370b5e74", func := "covenant/covenantlaw07.StoreSizes", spec := "storeSizes", inPlace := ["internal/bytealg.Compare"], unfollowed := true, recurses := true, apart := false, narrowed := true }
def StoreSizesUptoSaid : Prop := storeSizesUptoRow.holds Try.pinned (OpenSpec.upto storeSizesSpec)

/-- 'covenantlaw07.StoreBack', WHERE WHAT IT READS IS OF BULK AT MOST 1048576: true; the input reads as it did. -/
def storeBackUptoRow : OpenClaim := { program := "ytkmeoobbjdbhjaa", sum := "c0f2ffa0320c1004cbb55cc5ddc63aadacc6e7b95feeded90d675093370b5e74", func := "covenant/covenantlaw07.StoreBack", spec := "storeBack", inPlace := ["internal/bytealg.Compare"], unfollowed := true, recurses := true, apart := false, narrowed := true }
def StoreBackUptoSaid : Prop := storeBackUptoRow.holds Try.pinned (OpenSpec.upto storeBackSpec)

/-- 'covenantlaw07.StoreTells', WHERE WHAT IT READS IS OF BULK AT MOST 1048576: true; the input reads as it did. -/
def storeTellsUptoRow : OpenClaim := { program := "ytkmeoobbjdbhjaa", sum := "c0f2ffa0320c1004cbb55cc5ddc63aadacc6e7b95feeded90d675093370b5e74", func := "covenant/covenantlaw07.StoreTells", spec := "storeTells", inPlace := ["internal/bytealg.Compare"], unfollowed := true, recurses := true, apart := false, narrowed := true }
def StoreTellsUptoSaid : Prop := storeTellsUptoRow.holds Try.pinned (OpenSpec.upto storeTellsSpec)

end Rows
end Go.Proofs.Ytkmeoobbjdbhjaa
