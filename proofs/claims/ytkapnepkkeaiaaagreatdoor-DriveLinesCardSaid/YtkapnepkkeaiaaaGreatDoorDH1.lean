/- Closed facts. -/
import Derived.Test.YtkapnepkkeaiaaaGreatDoorDH00
import GoSem.ClaimSeven
namespace Go.Proofs.YtkapnepkkeaiaaaGreatDoor
open Go
set_option maxRecDepth 100000
theorem f_inPlace : (["internal/bytealg.CountString", "internal/bytealg.IndexByteString", "internal/bytealg.IndexString", "internal/abi.NoEscape", "internal/bytealg.MakeNoZero", "maps.clone"] == Tryz.prog.inPlace 3) = true := by
  have h : Tryz.prog.inPlace 3 = ["internal/bytealg.CountString", "internal/bytealg.IndexByteString", "internal/bytealg.IndexString", "internal/abi.NoEscape", "internal/bytealg.MakeNoZero", "maps.clone"] := by
    unfold Program.inPlace
    rw [closure3]
    kernel_rfl
  exact beq_iff_eq.2 h.symm
theorem unf : Tryz.prog.unfollowed 3 = true := by
  unfold Program.unfollowed
  rw [closure3]
  kernel_rfl
theorem f_unf : (true == Tryz.prog.unfollowed 3) = true := by rw [unf]; rfl
theorem f_rec : (true == Tryz.prog.recurses 3) = true := by
  have h : Tryz.prog.recurses 3 = true := by
    unfold Program.recurses
    rw [unf]
    rfl
  rw [h]
  rfl
end Go.Proofs.YtkapnepkkeaiaaaGreatDoor
