/- Runs. -/
import Derived.Test.YtkapnepkkeaiaaaGreatDoorDBase
namespace Go.Proofs.YtkapnepkkeaiaaaGreatDoor
open Sx
set_option maxRecDepth 100000
theorem run_ent49 : entRun Tryz.prog O2 8000 ent49 = true := by kernel_rfl
theorem run_ent50 : entRun Tryz.prog O2 8000 ent50 = true := by kernel_rfl
theorem run_ent51 : entRun Tryz.prog O2 8000 ent51 = true := by kernel_rfl
theorem run_ent52 : entRun Tryz.prog O2 8000 ent52 = true := by kernel_rfl
theorem run_ent53 : entRun Tryz.prog O2 8000 ent53 = true := by kernel_rfl
theorem run_ent54 : entRun Tryz.prog O2 8000 ent54 = true := by kernel_rfl
theorem run_ent55 : entRun Tryz.prog O2 8000 ent55 = true := by kernel_rfl
theorem run_ent56 : entRun Tryz.prog O2 8000 ent56 = true := by kernel_rfl
theorem run_ent57 : entRun Tryz.prog O2 8000 ent57 = true := by kernel_rfl
theorem run_ent58 : entRun Tryz.prog O2 8000 ent58 = true := by kernel_rfl
theorem run_ent59 : entRun Tryz.prog O2 8000 ent59 = true := by kernel_rfl
theorem run_ent60 : entRun Tryz.prog O2 8000 ent60 = true := by kernel_rfl
theorem run_ent61 : entRun Tryz.prog O2 8000 ent61 = true := by kernel_rfl
theorem run_ent62 : entRun Tryz.prog O2 8000 ent62 = true := by kernel_rfl
theorem run_ent63 : entRun Tryz.prog O2 8000 ent63 = true := by kernel_rfl
theorem run_ent64 : entRun Tryz.prog O2 8000 ent64 = true := by kernel_rfl
theorem run_ent65 : entRun Tryz.prog O2 8000 ent65 = true := by kernel_rfl
theorem run_ent66 : entRun Tryz.prog O2 8000 ent66 = true := by kernel_rfl
theorem run_ent67 : entRun Tryz.prog O2 8000 ent67 = true := by kernel_rfl
theorem run_ent68 : entRun Tryz.prog O2 8000 ent68 = true := by kernel_rfl
theorem run_ent69 : entRun Tryz.prog O2 8000 ent69 = true := by kernel_rfl
theorem run_ent70 : entRun Tryz.prog O2 8000 ent70 = true := by kernel_rfl
theorem run_ent71 : entRun Tryz.prog O2 8000 ent71 = true := by kernel_rfl
theorem run_ent72 : entRun Tryz.prog O2 8000 ent72 = true := by kernel_rfl
theorem run_ent73 : entRun Tryz.prog O2 8000 ent73 = true := by kernel_rfl
theorem run_ent74 : entRun Tryz.prog O2 8000 ent74 = true := by kernel_rfl
theorem run_ent75 : entRun Tryz.prog O2 8000 ent75 = true := by kernel_rfl
theorem run_ent76 : entRun Tryz.prog O2 8000 ent76 = true := by kernel_rfl
theorem run_ent77 : entRun Tryz.prog O2 8000 ent77 = true := by kernel_rfl
theorem run_ent78 : entRun Tryz.prog O2 8000 ent78 = true := by kernel_rfl
theorem run_ent79 : entRun Tryz.prog O2 8000 ent79 = true := by kernel_rfl
theorem run_ent80 : entRun Tryz.prog O2 8000 ent80 = true := by kernel_rfl
theorem run_ent81 : entRun Tryz.prog O2 8000 ent81 = true := by kernel_rfl
theorem run_ent82 : entRun Tryz.prog O2 8000 ent82 = true := by kernel_rfl
theorem run_ent83 : entRun Tryz.prog O2 8000 ent83 = true := by kernel_rfl
theorem run_ent84 : entRun Tryz.prog O2 8000 ent84 = true := by kernel_rfl
theorem run_ent85 : entRun Tryz.prog O2 8000 ent85 = true := by kernel_rfl
theorem run_ent88 : entRun Tryz.prog O2 8000 ent88 = true := by kernel_rfl
theorem run_ent90 : entRun Tryz.prog O2 8000 ent90 = true := by kernel_rfl
theorem run_ent122 : entRun Tryz.prog O2 8000 ent122 = true := by kernel_rfl
end Go.Proofs.YtkapnepkkeaiaaaGreatDoor
