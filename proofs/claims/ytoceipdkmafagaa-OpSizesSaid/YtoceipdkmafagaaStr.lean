/-
  Lemmas of this claim's own: a string's bytes as a slice. Over any program.
-/
import Derived.Test.YtoceipdkmafagaaLists
import Derived.Laws.IdiomStrings
namespace Go.Cov
open Go.RowKit
/-- the world behind '[]byte(s)' -/
def sbW (e : TypeId) (w : World) (l : List UInt8) : World := w.drew.alloc (.cells (bytesRow (str l) (grownCap w (str l).size 0 e)) e ((bytesRow (str l) (grownCap w (str l).size 0 e)).size, (bytesRow (str l) (grownCap w (str l).size 0 e)).size + 1))
def sbCap (e : TypeId) (w : World) (l : List UInt8) : Nat := grownCap w (str l).size 0 e
theorem str_size (l : List UInt8) : (str l).size = l.length := by simp [str, ByteArray.size]
theorem conv_sb {P : Program} {src dst e : TypeId} (hs : P.underlying src = some .string) (hd : P.underlying dst = some (.slice e)) (he : P.underlying e = some (.int .u8)) (w : World) (l : List UInt8) :
    (convert src dst (.string (str l))).run P w = .ok (.slice (some ⟨w.heap.size, 0, none⟩) l.length (sbCap e w l)) (sbW e w l) := by
  rw [run_bytes_of_string w src dst e (str l) hs hd he, str_size]
  rfl
theorem sbW_below (e : TypeId) (w : World) (l : List UInt8) : Below w.heap.size w (sbW e w l) := ((Below.refl _ _).drew).alloc (Nat.le_refl _) _
theorem sbW_size (e : TypeId) (w : World) (l : List UInt8) : (sbW e w l).heap.size = w.heap.size + 1 := Array.size_push ..
theorem sbW_rd (e : TypeId) (w : World) (l : List UInt8) : Rd (sbW e w l) (some ⟨w.heap.size, 0, none⟩) (l.map byt) := by
  have h := rd_boxf w.drew (bytesRow (str l) (grownCap w (str l).size 0 e)) e ((bytesRow (str l) (grownCap w (str l).size 0 e)).size, (bytesRow (str l) (grownCap w (str l).size 0 e)).size + 1)
  intro j u hj
  refine h j u ?_
  have e2 : (bytesRow (str l) (grownCap w (str l).size 0 e)).toList = l.map byt ++ List.replicate (grownCap w (str l).size 0 e - (str l).size) (.int .u8 0) := by
    unfold bytesRow
    rw [Array.toList_append, Array.toList_map, Array.toList_replicate]
    rfl
  rw [e2, List.getElem?_append_left (List.getElem?_eq_some_iff.1 hj).1]
  exact hj
theorem sbCap_ge (e : TypeId) (w : World) (l : List UInt8) : l.length ≤ sbCap e w l := by have := grownCap_ge w (str l).size 0 e; rw [str_size] at this; unfold sbCap; rw [str_size]; exact this
theorem sbCap_le (e : TypeId) (w : World) (l : List UInt8) (h : l.length ≤ maxLen) : sbCap e w l ≤ maxLen := by unfold sbCap; rw [str_size]; exact grownCap_le_maxLen _ _ _ _ h
end Go.Cov
