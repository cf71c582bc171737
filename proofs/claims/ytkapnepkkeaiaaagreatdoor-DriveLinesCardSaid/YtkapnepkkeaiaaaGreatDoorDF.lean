/- Runs. -/
import Derived.Test.YtkapnepkkeaiaaaGreatDoorDBase
namespace Go.Proofs.YtkapnepkkeaiaaaGreatDoor
open Sx
set_option maxRecDepth 100000
theorem run_ent1 : entRun Tryz.prog O0 8000 ent1 = true := by kernel_rfl
theorem run_ent2 : entRun Tryz.prog O0 8000 ent2 = true := by kernel_rfl
theorem run_ent5 : entRun Tryz.prog O0 8000 ent5 = true := by kernel_rfl
theorem run_ent94 : entRun Tryz.prog O0 8000 ent94 = true := by kernel_rfl
theorem run_ent95 : entRun Tryz.prog O0 8000 ent95 = true := by kernel_rfl
theorem run_ent96 : entRun Tryz.prog O0 8000 ent96 = true := by kernel_rfl
theorem run_ent97 : entRun Tryz.prog O0 8000 ent97 = true := by kernel_rfl
theorem run_ent98 : entRun Tryz.prog O0 8000 ent98 = true := by kernel_rfl
end Go.Proofs.YtkapnepkkeaiaaaGreatDoor

namespace Go.Proofs.YtkapnepkkeaiaaaGreatDoor
open Sx
set_option maxRecDepth 100000
theorem run_ent99 : entRun Tryz.prog O0 8000 ent99 = true := by kernel_rfl
theorem run_ent100 : entRun Tryz.prog O0 8000 ent100 = true := by kernel_rfl
theorem run_ent101 : entRun Tryz.prog O0 8000 ent101 = true := by kernel_rfl
theorem run_ent102 : entRun Tryz.prog O0 8000 ent102 = true := by kernel_rfl
theorem run_ent103 : entRun Tryz.prog O0 8000 ent103 = true := by kernel_rfl
theorem run_ent104 : entRun Tryz.prog O0 8000 ent104 = true := by kernel_rfl
theorem run_ent105 : entRun Tryz.prog O0 8000 ent105 = true := by kernel_rfl
theorem run_ent106 : entRun Tryz.prog O0 8000 ent106 = true := by kernel_rfl
end Go.Proofs.YtkapnepkkeaiaaaGreatDoor

namespace Go.Proofs.YtkapnepkkeaiaaaGreatDoor
open Sx
set_option maxRecDepth 100000
theorem run_ent107 : entRun Tryz.prog O0 8000 ent107 = true := by kernel_rfl
theorem run_ent108 : entRun Tryz.prog O0 8000 ent108 = true := by kernel_rfl
theorem run_ent109 : entRun Tryz.prog O0 8000 ent109 = true := by kernel_rfl
theorem run_ent110 : entRun Tryz.prog O0 8000 ent110 = true := by kernel_rfl
theorem run_ent111 : entRun Tryz.prog O0 8000 ent111 = true := by kernel_rfl
theorem run_ent112 : entRun Tryz.prog O0 8000 ent112 = true := by kernel_rfl
theorem run_ent113 : entRun Tryz.prog O0 8000 ent113 = true := by kernel_rfl
theorem run_ent114 : entRun Tryz.prog O0 8000 ent114 = true := by kernel_rfl
end Go.Proofs.YtkapnepkkeaiaaaGreatDoor

namespace Go.Proofs.YtkapnepkkeaiaaaGreatDoor
open Sx
set_option maxRecDepth 100000
theorem run_ent115 : entRun Tryz.prog O0 8000 ent115 = true := by kernel_rfl
end Go.Proofs.YtkapnepkkeaiaaaGreatDoor
