/- For every options value and every four numbers the law BackOptions returns true and its arguments read as they did; the listed variables read as the program's own initialisers lay them. -/
import Derived.Test.YthghnnhpimgbmaaGreatDoorWP
import Derived.Test.YthghnnhpimgbmaaGreatDoorG1
import Derived.Test.YthghnnhpimgbmaaGreatDoorG2
import Derived.Test.YthghnnhpimgbmaaGreatDoorG3
import Derived.Test.YthghnnhpimgbmaaGreatDoorG4
import Derived.Test.YthghnnhpimgbmaaGreatDoorG5
namespace Go.Proofs.YthghnnhpimgbmaaGreatDoor
open Go
set_option maxRecDepth 100000

theorem andc {a b : Bool} (h : a = true) (k : b = true) : (a && b) = true := by rw [h, k]; rfl
theorem joined : joinedFacts Tryz.prog 3 Tryz.f3 Rows.backOptionsSpec Rows.backOptionsRow = true :=
  (andc (andc (andc (andc (andc (andc (andc (andc (andc (andc (andc (andc (andc (andc (andc (andc (andc (andc (andc (andc (andc (andc (andc (andc (andc (andc (andc (andc (andc (andc (andc (by as_aux_lemma => kernel_rfl) laidOut) f_mapsRowed) (by as_aux_lemma => kernel_rfl)) (by as_aux_lemma => kernel_rfl)) (by as_aux_lemma => kernel_rfl)) (by as_aux_lemma => kernel_rfl)) (by as_aux_lemma => kernel_rfl)) (by as_aux_lemma => kernel_rfl)) f_inPlace) f_unf) f_rec) f_named) (by as_aux_lemma => kernel_rfl)) (by as_aux_lemma => kernel_rfl)) (by as_aux_lemma => kernel_rfl)) (by as_aux_lemma => kernel_rfl)) (by as_aux_lemma => kernel_rfl)) (by as_aux_lemma => kernel_rfl)) (by as_aux_lemma => kernel_rfl)) (by as_aux_lemma => kernel_rfl)) (by as_aux_lemma => kernel_rfl)) (by as_aux_lemma => kernel_rfl)) (by as_aux_lemma => kernel_rfl)) f_heard) (by as_aux_lemma => kernel_rfl)) (by as_aux_lemma => kernel_rfl)) (by as_aux_lemma => kernel_rfl)) (by as_aux_lemma => kernel_rfl)) (by as_aux_lemma => kernel_rfl)) (by as_aux_lemma => kernel_rfl)) (by as_aux_lemma => kernel_rfl))

theorem row_holds : Rows.BackOptionsSaid :=
  OpenClaim.holds_of_wide 3 Tryz.f3 rfl rfl rfl rfl rfl rfl rfl ⟨rfl, rfl, rfl, rfl, rfl⟩ rfl rfl rfl rfl rfl (by kernel_rfl) Tryz.func3 joined
    (of_decide_eq_true (by kernel_rfl)) (by unfold Func.isWrapper; first | (rw [if_pos (by decide +kernel)]; kernel_rfl) | (rw [if_neg (by decide +kernel)]; exact ⟨rfl, rfl⟩))
    (fun os started H enc _ => lifted os started H enc)

theorem goesBy_false {P : Program} {c : OpenClaim} (hn : ∀ fn ∈ P.funcs.toList, fn.goes = false) (hs : c.start = .entering) : c.goesBy P = false := by
  have h1 : ∀ g : FuncId, (P.funcs[g]?).any Func.goes = false := by
    intro g
    cases h : P.funcs[g]? with
    | none => rfl
    | some fn => exact hn fn (Array.mem_toList_iff.2 (Array.mem_of_getElem? h))
  have h2 : P.funcs.any Func.goes = false := by
    rw [← Array.any_toList, List.any_eq_false]
    intro fn hfn
    rw [hn fn hfn]
    exact Bool.false_ne_true
  have h3 : ∀ f, P.goes f = false := by
    intro f
    unfold Program.goes
    rw [h2, Bool.and_false, Bool.or_false, List.any_eq_false]
    intro g _
    rw [h1 g]
    exact Bool.false_ne_true
  unfold OpenClaim.goesBy Program.goesAt Program.goesFrom
  rw [hs]
  cases P.funcNamed c.func with
  | none => rfl
  | some f => simp [h3]
theorem noGo : ∀ fn ∈ Tryz.prog.funcs.toList, fn.goes = false := fun fn hfn => by
  have := List.all_eq_true.1 noGoes fn hfn
  simpa using this
theorem goes_false : false = Rows.backOptionsRow.goesBy Tryz.pinned.checked.prog := (goesBy_false (P := Tryz.pinned.checked.prog) (c := Rows.backOptionsRow) noGo rfl).symm

theorem card_holds : Rows.BackOptionsCardSaid :=
  Claim7.holds_tied_plain_at .later [] [.listed, .data] true (true, "2269b71993d7068ad98fafbf6e12e75e9dbd3dc21e29f4e192bb3b98599b7365") true
    row_holds (fun _ h => by cases h) (by as_aux_lemma => kernel_rfl) (fun _ h => by cases h) backOptions_row_tie rfl ⟨rfl, rfl⟩ (by as_aux_lemma => kernel_rfl) rfl
    (fun f fn hf hfn => by
      obtain rfl : f = 3 := Option.some.inj ((show Tryz.prog.funcNamed "jacquard/jacquardlaw23.BackOptions" = some 3 by kernel_rfl).symm.trans hf) |>.symm
      obtain rfl : fn = Tryz.f3 := (Option.some.inj (Tryz.func3.symm.trans hfn)).symm
      exact ⟨by as_aux_lemma => kernel_rfl, fun j t ht => by
        rw [Tryz.params3] at ht
        have hm : t ∈ [25, 26] := by simpa using Array.mem_of_getElem? ht
        have hall : ([25, 26].all fun u => !Tryz.prog.wantsStandIn u) = true := by kernel_rfl
        exact (show Tryz.prog.wantsStandIn t = false by simpa using List.all_eq_true.1 hall t hm)⟩)
    goes_false
#print axioms card_holds
end Go.Proofs.YthghnnhpimgbmaaGreatDoor
