import Derived.Test.YtelmndpelgbboaaWireC
namespace Go.Proofs.Ytelmndpelgbboaa
open Go.RowKit Go.Cov
end Go.Proofs.Ytelmndpelgbboaa
