/- Closed facts. -/
import Derived.Test.YtkapnepkkeaiaaaGreatDoorDT0
namespace Go.Proofs.YtkapnepkkeaiaaaGreatDoor
open Go
set_option maxRecDepth 100000
theorem t_w : Tryz.prog.worded (varsWordLater true) = true := by kernel_rfl
theorem t_w' : Tryz.prog.worded (varsWordLater !true) = false := by kernel_rfl
theorem t_root : Tryz.prog.worded rootWordLater = true := by kernel_rfl
theorem t_k : L8.map (fun x => Tryz.prog.kindOfLater x.1) = K8.map some := by kernel_rfl
theorem t_g : (Tryz.prog.funcNamed "gosem.cut.vars").isSome = true := by kernel_rfl
theorem t_n : varsNamedLaterB Tryz.prog (varsId Tryz.prog) L8 = true := by kernel_rfl
end Go.Proofs.YtkapnepkkeaiaaaGreatDoor
