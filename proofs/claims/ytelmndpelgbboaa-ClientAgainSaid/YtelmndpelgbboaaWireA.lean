import Derived.Test.YtelmndpelgbboaaLists
import Derived.WalkSpells
import Derived.Test.YtelmndpelgbboaaRows
import Derived.Deep.QuietTactic
import Derived.BigQuiet
import Derived.Deep.LoopGhost
import Derived.StillTailTactics
namespace Go.Proofs.Ytelmndpelgbboaa
open Go.RowKit Go.Cov
theorem infoB : (Try.prog.info? 5).map (fun i => (i.zero, i.size, i.bytes)) = some (some (.int .u8 0), 1, 1) := by kernel_rfl
end Go.Proofs.Ytelmndpelgbboaa
