/- Closed facts. -/
import Derived.Test.YtkapnepkkeaiaaaGreatDoorDWP
import Derived.Test.YtkapnepkkeaiaaaGreatDoorDH1
import Derived.Test.YtkapnepkkeaiaaaGreatDoorDH2
import Derived.Test.YtkapnepkkeaiaaaGreatDoorDH4
import Derived.Test.YtkapnepkkeaiaaaGreatDoorDL4
namespace Go.Proofs.YtkapnepkkeaiaaaGreatDoor
open Go
set_option maxRecDepth 100000
theorem andc {a b : Bool} (h : a = true) (k : b = true) : (a && b) = true := by rw [h, k]; rfl
set_option maxHeartbeats 4000000 in
theorem joined : joinedFacts Tryz.prog 3 Tryz.f3 Rows.driveLinesSpec Rows.driveLinesRow = true :=
  (andc (andc (andc (andc (andc (andc (andc (andc (andc (andc (andc (andc (andc (andc (andc (andc (andc (andc (andc (andc (andc (andc (andc (andc (andc (andc (andc (andc (andc (andc (andc (by as_aux_lemma => kernel_rfl) laidOut) f_mapsRowed) (by as_aux_lemma => kernel_rfl)) (by as_aux_lemma => kernel_rfl)) (by as_aux_lemma => kernel_rfl)) (by as_aux_lemma => kernel_rfl)) (by as_aux_lemma => kernel_rfl)) (by as_aux_lemma => kernel_rfl)) f_inPlace) f_unf) f_rec) f_named) (by as_aux_lemma => kernel_rfl)) (by as_aux_lemma => kernel_rfl)) (by as_aux_lemma => kernel_rfl)) (by as_aux_lemma => kernel_rfl)) (by as_aux_lemma => kernel_rfl)) (by as_aux_lemma => kernel_rfl)) (by as_aux_lemma => kernel_rfl)) (by as_aux_lemma => kernel_rfl)) (by as_aux_lemma => kernel_rfl)) (by as_aux_lemma => kernel_rfl)) (by as_aux_lemma => kernel_rfl)) f_heard) (by as_aux_lemma => kernel_rfl)) (by as_aux_lemma => kernel_rfl)) (by as_aux_lemma => kernel_rfl)) (by as_aux_lemma => kernel_rfl)) (by as_aux_lemma => kernel_rfl)) (by as_aux_lemma => kernel_rfl)) (by as_aux_lemma => kernel_rfl))
end Go.Proofs.YtkapnepkkeaiaaaGreatDoor
