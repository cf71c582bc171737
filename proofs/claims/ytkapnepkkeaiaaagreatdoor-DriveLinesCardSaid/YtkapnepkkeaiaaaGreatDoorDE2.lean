/- Runs. -/
import Derived.Test.YtkapnepkkeaiaaaGreatDoorDBase
namespace Go.Proofs.YtkapnepkkeaiaaaGreatDoor
open Sx
set_option maxRecDepth 100000
theorem run_ent164 : entRun Tryz.prog O2 8000 ent164 = true := by kernel_rfl
theorem run_ent165 : entRun Tryz.prog O2 8000 ent165 = true := by kernel_rfl
theorem run_ent166 : entRun Tryz.prog O2 8000 ent166 = true := by kernel_rfl
theorem run_ent167 : entRun Tryz.prog O2 8000 ent167 = true := by kernel_rfl
theorem run_ent168 : entRun Tryz.prog O2 8000 ent168 = true := by kernel_rfl
theorem run_ent169 : entRun Tryz.prog O2 8000 ent169 = true := by kernel_rfl
theorem run_ent170 : entRun Tryz.prog O2 8000 ent170 = true := by kernel_rfl
theorem run_ent171 : entRun Tryz.prog O2 8000 ent171 = true := by kernel_rfl
theorem run_ent172 : entRun Tryz.prog O2 8000 ent172 = true := by kernel_rfl
theorem run_ent173 : entRun Tryz.prog O2 8000 ent173 = true := by kernel_rfl
theorem run_ent174 : entRun Tryz.prog O2 8000 ent174 = true := by kernel_rfl
theorem run_ent175 : entRun Tryz.prog O2 8000 ent175 = true := by kernel_rfl
theorem run_ent176 : entRun Tryz.prog O2 8000 ent176 = true := by kernel_rfl
theorem run_ent177 : entRun Tryz.prog O2 8000 ent177 = true := by kernel_rfl
theorem run_ent178 : entRun Tryz.prog O2 8000 ent178 = true := by kernel_rfl
theorem run_ent179 : entRun Tryz.prog O2 8000 ent179 = true := by kernel_rfl
theorem run_ent180 : entRun Tryz.prog O2 8000 ent180 = true := by kernel_rfl
theorem run_ent181 : entRun Tryz.prog O2 8000 ent181 = true := by kernel_rfl
theorem run_ent182 : entRun Tryz.prog O2 8000 ent182 = true := by kernel_rfl
theorem run_ent183 : entRun Tryz.prog O2 8000 ent183 = true := by kernel_rfl
theorem run_ent184 : entRun Tryz.prog O2 8000 ent184 = true := by kernel_rfl
theorem run_ent185 : entRun Tryz.prog O2 8000 ent185 = true := by kernel_rfl
theorem run_ent186 : entRun Tryz.prog O2 8000 ent186 = true := by kernel_rfl
theorem run_ent187 : entRun Tryz.prog O2 8000 ent187 = true := by kernel_rfl
theorem run_ent188 : entRun Tryz.prog O2 8000 ent188 = true := by kernel_rfl
theorem run_ent189 : entRun Tryz.prog O2 8000 ent189 = true := by kernel_rfl
theorem run_ent190 : entRun Tryz.prog O2 8000 ent190 = true := by kernel_rfl
theorem run_ent191 : entRun Tryz.prog O2 8000 ent191 = true := by kernel_rfl
theorem run_ent192 : entRun Tryz.prog O2 8000 ent192 = true := by kernel_rfl
theorem run_ent193 : entRun Tryz.prog O2 8000 ent193 = true := by kernel_rfl
theorem run_ent194 : entRun Tryz.prog O2 8000 ent194 = true := by kernel_rfl
theorem run_ent195 : entRun Tryz.prog O2 8000 ent195 = true := by kernel_rfl
theorem run_ent196 : entRun Tryz.prog O2 8000 ent196 = true := by kernel_rfl
theorem run_ent197 : entRun Tryz.prog O2 8000 ent197 = true := by kernel_rfl
theorem run_ent198 : entRun Tryz.prog O2 8000 ent198 = true := by kernel_rfl
theorem run_ent199 : entRun Tryz.prog O2 8000 ent199 = true := by kernel_rfl
theorem run_ent201 : entRun Tryz.prog O2 8000 ent201 = true := by kernel_rfl
theorem run_ent202 : entRun Tryz.prog O2 8000 ent202 = true := by kernel_rfl
theorem run_ent203 : entRun Tryz.prog O2 8000 ent203 = true := by kernel_rfl
theorem run_ent204 : entRun Tryz.prog O2 8000 ent204 = true := by kernel_rfl
end Go.Proofs.YtkapnepkkeaiaaaGreatDoor
