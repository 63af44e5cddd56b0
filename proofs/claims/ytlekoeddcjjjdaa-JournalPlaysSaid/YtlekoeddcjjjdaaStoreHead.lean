import Derived.Test.YtlekoeddcjjjdaaStoreK
import Derived.Lib.SlBytesConst
namespace Go.Proofs.Ytlekoeddcjjjdaa
open Go.RowKit Go.Cov Go.Lib
theorem put_h1 : putR [] [98] [50] = ([([98], [50])], 0) := by decide +kernel
theorem put_h2 : putR [([98], [50])] [97] [49] = ([([97], [49]), ([98], [50])], 0) := by decide +kernel
theorem two_pairs {xs : List Pr} {a b : List UInt8 × List UInt8} (h : xs.map Pr.data = [a, b]) : ∃ x y, xs = [x, y] ∧ x.data = a ∧ y.data = b := by
  match xs, h with
  | [x, y], h => exact ⟨x, y, rfl, by injection h, by injection h with _ h; injection h⟩
theorem size_run {w : World} {o : Obj} : (w.alloc o).heap.size = w.heap.size + 1 := Array.size_push ..
theorem els_len {xs : List Pr} {L : PL} (h : xs.map Pr.data = L) : xs.length = L.length := by rw [← h, List.length_map]
theorem fit_els {xs : List Pr} (h : Fit (xs.map Pr.data)) : ∀ x ∈ xs, x.v.length ≤ 140737488351236 := fun x hx => by
  have : (Pr.data x).2.length ≤ 256 := (h x.data (List.mem_map_of_mem hx)).2
  show (Pr.data x).2.length ≤ _
  omega
theorem lit2 (P : Program) (t e : TypeId) (ht : P.underlying t = some (.slice e)) (he : P.underlying e = some (.int .u8)) (w : World) (o : Obj) (C : Array Value) (n c : Nat) : (convert t t (.slice (some ⟨w.heap.size + 1, 0, none⟩) n c)).run P ((w.alloc o).alloc (.cells C e)) = .ok (.slice (some ⟨w.heap.size + 1, 0, none⟩) n c) ((w.alloc o).alloc (.cells C e (C.size, C.size + 1))) := by
  have := Lib.run_convert_bytes_const (P := P) (w.alloc o) t e C n c ht he
  rwa [size_run] at this
end Go.Proofs.Ytlekoeddcjjjdaa
