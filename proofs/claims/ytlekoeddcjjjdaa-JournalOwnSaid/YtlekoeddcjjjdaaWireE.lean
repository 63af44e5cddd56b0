import Derived.Test.YtlekoeddcjjjdaaWireD
namespace Go.Proofs.Ytlekoeddcjjjdaa
open Go.RowKit Go.Cov
end Go.Proofs.Ytlekoeddcjjjdaa
