import Derived.Test.YtlekoeddcjjjdaaWireJ
namespace Go.Proofs.Ytlekoeddcjjjdaa
open Go.RowKit Go.Cov
end Go.Proofs.Ytlekoeddcjjjdaa
