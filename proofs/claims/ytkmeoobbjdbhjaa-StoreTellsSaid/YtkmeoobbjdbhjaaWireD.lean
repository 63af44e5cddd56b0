import Derived.Test.YtkmeoobbjdbhjaaWireC
namespace Go.Proofs.Ytkmeoobbjdbhjaa
open Go.RowKit Go.Cov
end Go.Proofs.Ytkmeoobbjdbhjaa
