/- Runs. -/
import Derived.Test.YtkapnepkkeaiaaaGreatDoorDBase
namespace Go.Proofs.YtkapnepkkeaiaaaGreatDoor
open Sx
set_option maxRecDepth 100000
theorem run_ent123 : entRun Tryz.prog O2 8000 ent123 = true := by kernel_rfl
theorem run_ent124 : entRun Tryz.prog O2 8000 ent124 = true := by kernel_rfl
theorem run_ent125 : entRun Tryz.prog O2 8000 ent125 = true := by kernel_rfl
theorem run_ent126 : entRun Tryz.prog O2 8000 ent126 = true := by kernel_rfl
theorem run_ent127 : entRun Tryz.prog O2 8000 ent127 = true := by kernel_rfl
theorem run_ent128 : entRun Tryz.prog O2 8000 ent128 = true := by kernel_rfl
theorem run_ent129 : entRun Tryz.prog O2 8000 ent129 = true := by kernel_rfl
theorem run_ent130 : entRun Tryz.prog O2 8000 ent130 = true := by kernel_rfl
theorem run_ent131 : entRun Tryz.prog O2 8000 ent131 = true := by kernel_rfl
theorem run_ent132 : entRun Tryz.prog O2 8000 ent132 = true := by kernel_rfl
theorem run_ent133 : entRun Tryz.prog O2 8000 ent133 = true := by kernel_rfl
theorem run_ent134 : entRun Tryz.prog O2 8000 ent134 = true := by kernel_rfl
theorem run_ent135 : entRun Tryz.prog O2 8000 ent135 = true := by kernel_rfl
theorem run_ent136 : entRun Tryz.prog O2 8000 ent136 = true := by kernel_rfl
theorem run_ent137 : entRun Tryz.prog O2 8000 ent137 = true := by kernel_rfl
theorem run_ent138 : entRun Tryz.prog O2 8000 ent138 = true := by kernel_rfl
theorem run_ent139 : entRun Tryz.prog O2 8000 ent139 = true := by kernel_rfl
theorem run_ent140 : entRun Tryz.prog O2 8000 ent140 = true := by kernel_rfl
theorem run_ent141 : entRun Tryz.prog O2 8000 ent141 = true := by kernel_rfl
theorem run_ent142 : entRun Tryz.prog O2 8000 ent142 = true := by kernel_rfl
theorem run_ent143 : entRun Tryz.prog O2 8000 ent143 = true := by kernel_rfl
theorem run_ent144 : entRun Tryz.prog O2 8000 ent144 = true := by kernel_rfl
theorem run_ent145 : entRun Tryz.prog O2 8000 ent145 = true := by kernel_rfl
theorem run_ent146 : entRun Tryz.prog O2 8000 ent146 = true := by kernel_rfl
theorem run_ent147 : entRun Tryz.prog O2 8000 ent147 = true := by kernel_rfl
theorem run_ent148 : entRun Tryz.prog O2 8000 ent148 = true := by kernel_rfl
theorem run_ent149 : entRun Tryz.prog O2 8000 ent149 = true := by kernel_rfl
theorem run_ent150 : entRun Tryz.prog O2 8000 ent150 = true := by kernel_rfl
theorem run_ent151 : entRun Tryz.prog O2 8000 ent151 = true := by kernel_rfl
theorem run_ent152 : entRun Tryz.prog O2 8000 ent152 = true := by kernel_rfl
theorem run_ent153 : entRun Tryz.prog O2 8000 ent153 = true := by kernel_rfl
theorem run_ent154 : entRun Tryz.prog O2 8000 ent154 = true := by kernel_rfl
theorem run_ent155 : entRun Tryz.prog O2 8000 ent155 = true := by kernel_rfl
theorem run_ent156 : entRun Tryz.prog O2 8000 ent156 = true := by kernel_rfl
theorem run_ent157 : entRun Tryz.prog O2 8000 ent157 = true := by kernel_rfl
theorem run_ent158 : entRun Tryz.prog O2 8000 ent158 = true := by kernel_rfl
theorem run_ent159 : entRun Tryz.prog O2 8000 ent159 = true := by kernel_rfl
theorem run_ent161 : entRun Tryz.prog O2 8000 ent161 = true := by kernel_rfl
theorem run_ent162 : entRun Tryz.prog O2 8000 ent162 = true := by kernel_rfl
theorem run_ent163 : entRun Tryz.prog O2 8000 ent163 = true := by kernel_rfl
end Go.Proofs.YtkapnepkkeaiaaaGreatDoor
