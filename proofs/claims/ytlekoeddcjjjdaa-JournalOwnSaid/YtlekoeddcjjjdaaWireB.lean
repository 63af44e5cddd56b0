import Derived.Test.YtlekoeddcjjjdaaWireA
import Derived.Test.YtlekoeddcjjjdaaWireP
namespace Go.Proofs.Ytlekoeddcjjjdaa
open Go.RowKit Go.Cov
end Go.Proofs.Ytlekoeddcjjjdaa
