import Derived.Test.YtkmeoobbjdbhjaaWireD
namespace Go.Proofs.Ytkmeoobbjdbhjaa
open Go.RowKit Go.Cov
end Go.Proofs.Ytkmeoobbjdbhjaa
