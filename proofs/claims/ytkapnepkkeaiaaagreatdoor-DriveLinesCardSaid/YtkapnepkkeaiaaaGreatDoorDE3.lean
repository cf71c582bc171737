/- Runs. -/
import Derived.Test.YtkapnepkkeaiaaaGreatDoorDBase
namespace Go.Proofs.YtkapnepkkeaiaaaGreatDoor
open Sx
set_option maxRecDepth 100000
theorem run_ent205 : entRun Tryz.prog O2 8000 ent205 = true := by kernel_rfl
theorem run_ent206 : entRun Tryz.prog O2 8000 ent206 = true := by kernel_rfl
theorem run_ent207 : entRun Tryz.prog O2 8000 ent207 = true := by kernel_rfl
theorem run_ent208 : entRun Tryz.prog O2 8000 ent208 = true := by kernel_rfl
theorem run_ent209 : entRun Tryz.prog O2 8000 ent209 = true := by kernel_rfl
theorem run_ent210 : entRun Tryz.prog O2 8000 ent210 = true := by kernel_rfl
theorem run_ent211 : entRun Tryz.prog O2 8000 ent211 = true := by kernel_rfl
theorem run_ent212 : entRun Tryz.prog O2 8000 ent212 = true := by kernel_rfl
theorem run_ent213 : entRun Tryz.prog O2 8000 ent213 = true := by kernel_rfl
theorem run_ent214 : entRun Tryz.prog O2 8000 ent214 = true := by kernel_rfl
theorem run_ent215 : entRun Tryz.prog O2 8000 ent215 = true := by kernel_rfl
theorem run_ent216 : entRun Tryz.prog O2 8000 ent216 = true := by kernel_rfl
theorem run_ent217 : entRun Tryz.prog O2 8000 ent217 = true := by kernel_rfl
theorem run_ent218 : entRun Tryz.prog O2 8000 ent218 = true := by kernel_rfl
theorem run_ent219 : entRun Tryz.prog O2 8000 ent219 = true := by kernel_rfl
theorem run_ent220 : entRun Tryz.prog O2 8000 ent220 = true := by kernel_rfl
theorem run_ent221 : entRun Tryz.prog O2 8000 ent221 = true := by kernel_rfl
theorem run_ent222 : entRun Tryz.prog O2 8000 ent222 = true := by kernel_rfl
theorem run_ent223 : entRun Tryz.prog O2 8000 ent223 = true := by kernel_rfl
theorem run_ent224 : entRun Tryz.prog O2 8000 ent224 = true := by kernel_rfl
theorem run_ent225 : entRun Tryz.prog O2 8000 ent225 = true := by kernel_rfl
theorem run_ent226 : entRun Tryz.prog O2 8000 ent226 = true := by kernel_rfl
theorem run_ent227 : entRun Tryz.prog O2 8000 ent227 = true := by kernel_rfl
theorem run_ent228 : entRun Tryz.prog O2 8000 ent228 = true := by kernel_rfl
theorem run_ent229 : entRun Tryz.prog O2 8000 ent229 = true := by kernel_rfl
theorem run_ent230 : entRun Tryz.prog O2 8000 ent230 = true := by kernel_rfl
theorem run_ent231 : entRun Tryz.prog O2 8000 ent231 = true := by kernel_rfl
theorem run_ent232 : entRun Tryz.prog O2 8000 ent232 = true := by kernel_rfl
theorem run_ent233 : entRun Tryz.prog O2 8000 ent233 = true := by kernel_rfl
theorem run_ent234 : entRun Tryz.prog O2 8000 ent234 = true := by kernel_rfl
theorem run_ent235 : entRun Tryz.prog O2 8000 ent235 = true := by kernel_rfl
theorem run_ent236 : entRun Tryz.prog O2 8000 ent236 = true := by kernel_rfl
theorem run_ent237 : entRun Tryz.prog O2 8000 ent237 = true := by kernel_rfl
theorem run_ent238 : entRun Tryz.prog O2 8000 ent238 = true := by kernel_rfl
end Go.Proofs.YtkapnepkkeaiaaaGreatDoor
