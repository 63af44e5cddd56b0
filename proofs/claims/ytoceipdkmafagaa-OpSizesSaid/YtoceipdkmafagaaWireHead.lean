import Derived.Test.YtoceipdkmafagaaWireM
import Derived.Lib.SlBytesConst
namespace Go.Proofs.Ytoceipdkmafagaa
open Go.RowKit Go.Cov
theorem num258 : getR [0, 0, 0, 0, 0, 0, 1, 2] 0 8 = (258, 8, 0) := by decide +kernel
theorem str_ab : ((str (tx [97, 98])).toList == [0, 0, 0, 2, 97, 98]) = true := by rw [toList_str]; decide +kernel
end Go.Proofs.Ytoceipdkmafagaa
