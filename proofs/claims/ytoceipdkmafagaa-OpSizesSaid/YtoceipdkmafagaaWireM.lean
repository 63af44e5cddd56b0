import Derived.Test.YtoceipdkmafagaaWireL
namespace Go.Proofs.Ytoceipdkmafagaa
open Go.RowKit Go.Cov
end Go.Proofs.Ytoceipdkmafagaa
