import Derived.Test.YtgkdnhbhmebmeaaDoorLogF
namespace Go.Proofs.YtgkdnhbhmebmeaaDoor
open Go.RowKit Go.Cov
end Go.Proofs.YtgkdnhbhmebmeaaDoor
