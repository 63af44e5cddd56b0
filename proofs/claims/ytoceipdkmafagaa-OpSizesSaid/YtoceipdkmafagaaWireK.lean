import Derived.Test.YtoceipdkmafagaaWireJ
namespace Go.Proofs.Ytoceipdkmafagaa
open Go.RowKit Go.Cov
end Go.Proofs.Ytoceipdkmafagaa
