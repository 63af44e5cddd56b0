import Derived.Test.YtlekoeddcjjjdaaPairs
/-! a slice with a bound. Over any program. -/
namespace Go.Cov
open Go.RowKit
theorem run_slice_max {P : Program} {t e : TypeId} {z : Value} {size bytes : Nat} (ht : P.underlying t = some (.slice e)) (hinfo : (P.info? e).map (fun i => (i.zero, i.size, i.bytes)) = some (some z, size, bytes))
    (A : Option Addr) (n c m : Nat) (kd kd' : IntKind) (i j : Int) (hi : i = m) (hj : j = m) (hc : m ≤ c) (w : World) :
    (Instr.sliceAt t (.slice A n c) none (some (.int kd i)) (some (.int kd' j))).run P w = .ok (.slice A m m) w := by
  subst hi hj
  obtain ⟨inf, hinf, _, hz1, _⟩ := info_parts hinfo
  simp [Instr.sliceAt, run_underlying ht, Instr.slice, Instr.sliceBounds, Instr.sliceBound, asIntOf, sizeOf, typeInfo, hinf, hc, Addr.add]
end Go.Cov
