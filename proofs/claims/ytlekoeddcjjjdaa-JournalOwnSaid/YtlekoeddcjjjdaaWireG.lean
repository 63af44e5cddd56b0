import Derived.Test.YtlekoeddcjjjdaaWireF
import Derived.Outline
namespace Go.Proofs.Ytlekoeddcjjjdaa
open Go.RowKit Go.Cov
end Go.Proofs.Ytlekoeddcjjjdaa
