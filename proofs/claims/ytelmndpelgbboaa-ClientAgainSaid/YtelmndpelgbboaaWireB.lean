import Derived.Test.YtelmndpelgbboaaWireA
import Derived.Test.YtelmndpelgbboaaWireP
namespace Go.Proofs.Ytelmndpelgbboaa
open Go.RowKit Go.Cov
end Go.Proofs.Ytelmndpelgbboaa
