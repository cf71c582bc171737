/- Closed facts. -/
import Derived.Test.YtkapnepkkeaiaaaGreatDoorProg
import Derived.KernelRfl
import GoSem.ClaimDataLaid
import Derived.Test.YtkapnepkkeaiaaaGreatDoorDL1
import Derived.Test.YtkapnepkkeaiaaaGreatDoorDL2
import Derived.Test.YtkapnepkkeaiaaaGreatDoorDL3
namespace Go.Proofs.YtkapnepkkeaiaaaGreatDoor
open Go
set_option maxRecDepth 100000
theorem rfF : (Tryz.prog.funcs.all fun f => f.params.all fun t => decide (t < Tryz.prog.types.size)) = true := by kernel_rfl
theorem tySize : Tryz.prog.types.size = 767 := by kernel_rfl
end Go.Proofs.YtkapnepkkeaiaaaGreatDoor

namespace Go.Proofs.YtkapnepkkeaiaaaGreatDoor
open Go
theorem rows_fine (i : Nat) (hi : i < 767) : rowFine Tryz.prog i = true := by
  rcases (show i < 100 ∨ (100 ≤ i ∧ i < 200) ∨ (200 ≤ i ∧ i < 300) ∨ (300 ≤ i ∧ i < 400) ∨ (400 ≤ i ∧ i < 500) ∨ (500 ≤ i ∧ i < 600) ∨ (600 ≤ i ∧ i < 700) ∨ 700 ≤ i from by omega) with h | h | h | h | h | h | h | h
  · have := List.all_eq_true.1 rf0 (i - 0) (List.mem_range.2 (by omega))
    rwa [show 0 + (i - 0) = i by omega] at this
  · have := List.all_eq_true.1 rf1 (i - 100) (List.mem_range.2 (by omega))
    rwa [show 100 + (i - 100) = i by omega] at this
  · have := List.all_eq_true.1 rf2 (i - 200) (List.mem_range.2 (by omega))
    rwa [show 200 + (i - 200) = i by omega] at this
  · have := List.all_eq_true.1 rf3 (i - 300) (List.mem_range.2 (by omega))
    rwa [show 300 + (i - 300) = i by omega] at this
  · have := List.all_eq_true.1 rf4 (i - 400) (List.mem_range.2 (by omega))
    rwa [show 400 + (i - 400) = i by omega] at this
  · have := List.all_eq_true.1 rf5 (i - 500) (List.mem_range.2 (by omega))
    rwa [show 500 + (i - 500) = i by omega] at this
  · have := List.all_eq_true.1 rf6 (i - 600) (List.mem_range.2 (by omega))
    rwa [show 600 + (i - 600) = i by omega] at this
  · have := List.all_eq_true.1 rf7 (i - 700) (List.mem_range.2 (by omega))
    rwa [show 700 + (i - 700) = i by omega] at this
theorem laidOut : laidOutB Tryz.prog = true := by
  unfold laidOutB
  rw [rfG, rfF, tySize, List.all_eq_true.2 (fun i hi => rows_fine i (List.mem_range.1 hi))]
  rfl
end Go.Proofs.YtkapnepkkeaiaaaGreatDoor
