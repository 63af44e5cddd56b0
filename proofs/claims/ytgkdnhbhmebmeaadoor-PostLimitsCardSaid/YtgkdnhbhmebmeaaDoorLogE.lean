import Derived.Test.YtgkdnhbhmebmeaaDoorLogD
import Derived.RangeFuncNested
import Derived.RangeFuncBound
import Derived.RangeFuncCalls
import Derived.RangeFuncLeaves
import Derived.Shelf.Abstract
import Derived.Shelf.RegionOpen
import Derived.WalkKit
import Derived.OwnWalkIn
import Derived.TacticsInMore
import Derived.LoopNIn
import Derived.LoopIn
namespace Go.Proofs.YtgkdnhbhmebmeaaDoor
open Go.RowKit Go.Cov Go.Shelf
attribute [local go_sem] Oper.semAt_some
/-- what has come when k rounds are over: from the end -/
def dnAt (xs : List En) (k : Nat) : Nat × En := (xs.length - 1 - k, xs.getD (xs.length - 1 - k) default)
def dn (xs : List En) (k : Nat) : List (Nat × En) := (List.range k).map (dnAt xs)
theorem dn_succ (xs : List En) (k : Nat) : dn xs (k + 1) = dn xs k ++ [dnAt xs k] := by simp [dn, List.range_succ]
theorem dn_length (xs : List En) (k : Nat) : (dn xs k).length = k := by simp [dn]
theorem dnAt_at {xs : List En} {k m : Nat} (hm : m = xs.length - 1 - k) (h : m < xs.length) : dnAt xs k = (m, xs[m]) := by
  unfold dnAt
  rw [← hm, List.getD_eq_getElem?_getD, List.getElem?_eq_getElem h]; rfl
abbrev encE (x : Nat × En) : Array Value := #[.int .i64 (x.1 : Int), .agg #[.int .i64 x.2.c, .int .i64 x.2.r, .slice x.2.A x.2.op.length x.2.cap]]
end Go.Proofs.YtgkdnhbhmebmeaaDoor
