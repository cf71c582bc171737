/- For every two texts the law DriveLines returns true and its arguments read as they did; the listed variables read as the program's own initialisers lay them. -/
import Derived.Test.YtkapnepkkeaiaaaGreatDoorDWJ
import Derived.Test.YtkapnepkkeaiaaaGreatDoorDT6
namespace Go.Proofs.YtkapnepkkeaiaaaGreatDoor
open Go
set_option maxRecDepth 100000

theorem row_holds : Rows.DriveLinesSaid :=
  OpenClaim.holds_of_wide 3 Tryz.f3 rfl rfl rfl rfl rfl rfl rfl ⟨rfl, rfl, rfl, rfl, rfl⟩ rfl rfl rfl rfl rfl (by kernel_rfl) Tryz.func3 joined
    (of_decide_eq_true (by kernel_rfl)) (by unfold Func.isWrapper; first | (rw [if_pos (by decide +kernel)]; kernel_rfl) | (rw [if_neg (by decide +kernel)]; exact ⟨rfl, rfl⟩))
    (fun os started H enc _ => lifted os started H enc)

theorem goesBy_false {P : Program} {c : OpenClaim} (hn : ∀ fn ∈ P.funcs.toList, fn.goes = false) (hs : c.start = .entering) : c.goesBy P = false := by
  have h1 : ∀ g : FuncId, (P.funcs[g]?).any Func.goes = false := by
    intro g
    cases h : P.funcs[g]? with
    | none => rfl
    | some fn => exact hn fn (Array.mem_toList_iff.2 (Array.mem_of_getElem? h))
  have h2 : P.funcs.any Func.goes = false := by
    rw [← Array.any_toList, List.any_eq_false]
    intro fn hfn
    rw [hn fn hfn]
    exact Bool.false_ne_true
  have h3 : ∀ f, P.goes f = false := by
    intro f
    unfold Program.goes
    rw [h2, Bool.and_false, Bool.or_false, List.any_eq_false]
    intro g _
    rw [h1 g]
    exact Bool.false_ne_true
  unfold OpenClaim.goesBy Program.goesAt Program.goesFrom
  rw [hs]
  cases P.funcNamed c.func with
  | none => rfl
  | some f => simp [h3]
theorem noGo : ∀ fn ∈ Tryz.prog.funcs.toList, fn.goes = false := fun fn hfn => by
  have := List.all_eq_true.1 noGoes fn hfn
  simpa using this
theorem goes_false : false = Rows.driveLinesRow.goesBy Tryz.pinned.checked.prog := (goesBy_false (P := Tryz.pinned.checked.prog) (c := Rows.driveLinesRow) noGo rfl).symm

theorem card_holds : Rows.DriveLinesCardSaid :=
  Claim7.holds_tied_plain_at .later [] [.pinned, .data, .data, .listed, .sentinel, .sentinel, .data, .data, .data] true (true, "3e546be3193d975ca81c5619f68697d7b99dca96acc25063a2c85f0f2b84c975") true
    row_holds (fun _ h => by cases h) (by as_aux_lemma => kernel_rfl) (fun _ h => by cases h) driveLines_row_tie rfl ⟨rfl, rfl⟩ (by as_aux_lemma => kernel_rfl) rfl
    (fun f fn hf hfn => by
      obtain rfl : f = 3 := Option.some.inj ((show Tryz.prog.funcNamed "jacquard/jacquardlaw26.DriveLines" = some 3 by kernel_rfl).symm.trans hf) |>.symm
      obtain rfl : fn = Tryz.f3 := (Option.some.inj (Tryz.func3.symm.trans hfn)).symm
      exact ⟨by as_aux_lemma => kernel_rfl, fun j t ht => by
        rw [Tryz.params3] at ht
        have hm : t ∈ [9, 9] := by simpa using Array.mem_of_getElem? ht
        have hall : ([9, 9].all fun u => !Tryz.prog.wantsStandIn u) = true := by kernel_rfl
        exact (show Tryz.prog.wantsStandIn t = false by simpa using List.all_eq_true.1 hall t hm)⟩)
    goes_false
#print axioms card_holds
end Go.Proofs.YtkapnepkkeaiaaaGreatDoor
