import Derived.Test.YtlekoeddcjjjdaaWireH
import Derived.WalkSmall
namespace Go.Proofs.Ytlekoeddcjjjdaa
open Go.RowKit Go.Cov
end Go.Proofs.Ytlekoeddcjjjdaa
