import Derived.Test.YtgkdnhbhmebmeaaDoorSeaF
import Derived.Test.YtgkdnhbhmebmeaaDoorPlain1
import Derived.Test.YtgkdnhbhmebmeaaDoorCards
import Derived.Test.YtgkdnhbhmebmeaaDoorTie
import Derived.Deep.DeepHandedRow
import Derived.Lib.LaidTab
namespace Go.Proofs.YtgkdnhbhmebmeaaDoor
open Go.RowKit Go.Cov
theorem gTab : Tryd.prog.globalNamed "covenant/seal.four" = some 0 := by kernel_rfl
theorem gTabType : (Tryd.prog.globals[0]?).map (·.type) = some 99 := by kernel_rfl
theorem cells37 : Tryd.prog.cellsOf 99 = 16 := by kernel_rfl
theorem cells28 : Tryd.prog.cellsOf 40 = 1 := by kernel_rfl
theorem tab_of {W : World} (h : laidMetH Tryd.prog Rows.postTellsRow.laid W) : Tab W := by
  have t : Lib.TabIs Tryd.prog W "covenant/seal.four" .u32 (Crc.table.map Int.ofNat) := Lib.tabIs_of_head (rest := []) gTab gTabType Tryd.underlying99 Tryd.underlying40 cells28 cells37 h
  intro k hk
  have := t.cell gTab k (by simpa [Crc.table] using hk)
  have hk' : k < Crc.table.length := by simpa [Crc.table] using hk
  rw [List.getD_eq_getElem?_getD, List.getElem?_map, List.getElem?_eq_getElem hk'] at this
  rw [List.getD_eq_getElem?_getD, List.getElem?_eq_getElem hk']
  simpa using this
end Go.Proofs.YtgkdnhbhmebmeaaDoor
