import Derived.Test.YtengfmcfklakbaaDoorSealF
import Derived.Test.YtengfmcfklakbaaDoorOpen
import Derived.Test.YtengfmcfklakbaaDoorCards
import Derived.Test.YtengfmcfklakbaaDoorTie
import Derived.Deep.DeepHandedRow
import Derived.Lib.LaidTab
namespace Go.Proofs.YtengfmcfklakbaaDoor
open Go.RowKit Go.Cov
theorem gTab : Tryd.prog.globalNamed "covenant/seal.four" = some 0 := by kernel_rfl
theorem gTabType : (Tryd.prog.globals[0]?).map (·.type) = some 37 := by kernel_rfl
theorem cells37 : Tryd.prog.cellsOf 37 = 16 := by kernel_rfl
theorem cells28 : Tryd.prog.cellsOf 28 = 1 := by kernel_rfl
theorem tab_of {W : World} (h : laidMetH Tryd.prog Rows.sealTellsRow.laid W) : Tab W := by
  have t : Lib.TabIs Tryd.prog W "covenant/seal.four" .u32 (Crc.table.map Int.ofNat) := Lib.tabIs_of_head (rest := []) gTab gTabType Tryd.underlying37 Tryd.underlying28 cells28 cells37 h
  intro k hk
  have := t.cell gTab k (by simpa [Crc.table] using hk)
  have hk' : k < Crc.table.length := by simpa [Crc.table] using hk
  rw [List.getD_eq_getElem?_getD, List.getElem?_map, List.getElem?_eq_getElem hk'] at this
  rw [List.getD_eq_getElem?_getD, List.getElem?_eq_getElem hk']
  simpa using this
end Go.Proofs.YtengfmcfklakbaaDoor
