/- Runs. -/
import Derived.Test.YtkapnepkkeaiaaaGreatDoorDBase
namespace Go.Proofs.YtkapnepkkeaiaaaGreatDoor
open Sx
set_option maxRecDepth 100000
theorem run_ent0 : entRun Tryz.prog O0 8000 ent0 = true := by kernel_rfl
theorem run_ent4 : entRun Tryz.prog O0 8000 ent4 = true := by kernel_rfl
theorem run_ent6 : entRun Tryz.prog O1 8000 ent6 = true := by kernel_rfl
theorem run_ent7 : entRun Tryz.prog O1 8000 ent7 = true := by kernel_rfl
theorem run_ent8 : entRun Tryz.prog O1 8000 ent8 = true := by kernel_rfl
theorem run_ent9 : entRun Tryz.prog O1 8000 ent9 = true := by kernel_rfl
theorem run_ent10 : entRun Tryz.prog O1 8000 ent10 = true := by kernel_rfl
theorem run_ent11 : entRun Tryz.prog O1 8000 ent11 = true := by kernel_rfl
theorem run_ent12 : entRun Tryz.prog O1 8000 ent12 = true := by kernel_rfl
theorem run_ent13 : entRun Tryz.prog O1 8000 ent13 = true := by kernel_rfl
theorem run_ent14 : entRun Tryz.prog O1 8000 ent14 = true := by kernel_rfl
theorem run_ent15 : entRun Tryz.prog O1 8000 ent15 = true := by kernel_rfl
theorem run_ent16 : entRun Tryz.prog O1 8000 ent16 = true := by kernel_rfl
theorem run_ent17 : entRun Tryz.prog O1 8000 ent17 = true := by kernel_rfl
theorem run_ent18 : entRun Tryz.prog O1 8000 ent18 = true := by kernel_rfl
theorem run_ent19 : entRun Tryz.prog O1 8000 ent19 = true := by kernel_rfl
theorem run_ent20 : entRun Tryz.prog O1 8000 ent20 = true := by kernel_rfl
theorem run_ent21 : entRun Tryz.prog O1 8000 ent21 = true := by kernel_rfl
theorem run_ent22 : entRun Tryz.prog O1 8000 ent22 = true := by kernel_rfl
theorem run_ent23 : entRun Tryz.prog O1 8000 ent23 = true := by kernel_rfl
theorem run_ent24 : entRun Tryz.prog O1 8000 ent24 = true := by kernel_rfl
theorem run_ent25 : entRun Tryz.prog O1 8000 ent25 = true := by kernel_rfl
theorem run_ent26 : entRun Tryz.prog O1 8000 ent26 = true := by kernel_rfl
theorem run_ent27 : entRun Tryz.prog O1 8000 ent27 = true := by kernel_rfl
theorem run_ent28 : entRun Tryz.prog O1 8000 ent28 = true := by kernel_rfl
theorem run_ent29 : entRun Tryz.prog O1 8000 ent29 = true := by kernel_rfl
theorem run_ent30 : entRun Tryz.prog O1 8000 ent30 = true := by kernel_rfl
theorem run_ent31 : entRun Tryz.prog O1 8000 ent31 = true := by kernel_rfl
theorem run_ent32 : entRun Tryz.prog O1 8000 ent32 = true := by kernel_rfl
theorem run_ent33 : entRun Tryz.prog O1 8000 ent33 = true := by kernel_rfl
theorem run_ent34 : entRun Tryz.prog O1 8000 ent34 = true := by kernel_rfl
theorem run_ent35 : entRun Tryz.prog O1 8000 ent35 = true := by kernel_rfl
theorem run_ent36 : entRun Tryz.prog O1 8000 ent36 = true := by kernel_rfl
theorem run_ent37 : entRun Tryz.prog O1 8000 ent37 = true := by kernel_rfl
theorem run_ent38 : entRun Tryz.prog O1 8000 ent38 = true := by kernel_rfl
theorem run_ent39 : entRun Tryz.prog O1 8000 ent39 = true := by kernel_rfl
theorem run_ent40 : entRun Tryz.prog O1 8000 ent40 = true := by kernel_rfl
theorem run_ent41 : entRun Tryz.prog O1 8000 ent41 = true := by kernel_rfl
theorem run_ent42 : entRun Tryz.prog O1 8000 ent42 = true := by kernel_rfl
theorem run_ent44 : entRun Tryz.prog O0 8000 ent44 = true := by kernel_rfl
theorem run_ent45 : entRun Tryz.prog O1 8000 ent45 = true := by kernel_rfl
theorem run_ent46 : entRun Tryz.prog O1 8000 ent46 = true := by kernel_rfl
theorem run_ent47 : entRun Tryz.prog O0 8000 ent47 = true := by kernel_rfl
theorem run_ent86 : entRun Tryz.prog O1 8000 ent86 = true := by kernel_rfl
theorem run_ent87 : entRun Tryz.prog O0 8000 ent87 = true := by kernel_rfl
theorem run_ent89 : entRun Tryz.prog O1 8000 ent89 = true := by kernel_rfl
theorem run_ent119 : entRun Tryz.prog O2 8000 ent119 = true := by kernel_rfl
theorem run_ent120 : entRun Tryz.prog O1 8000 ent120 = true := by kernel_rfl
theorem run_ent121 : entRun Tryz.prog O0 8000 ent121 = true := by kernel_rfl
theorem run_ent160 : entRun Tryz.prog O3 8000 ent160 = true := by kernel_rfl
end Go.Proofs.YtkapnepkkeaiaaaGreatDoor
