import Derived.Test.YtoceipdkmafagaaWireI
namespace Go.Proofs.Ytoceipdkmafagaa
open Go.RowKit Go.Cov
end Go.Proofs.Ytoceipdkmafagaa
