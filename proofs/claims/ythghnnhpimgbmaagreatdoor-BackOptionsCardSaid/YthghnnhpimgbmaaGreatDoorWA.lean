/- The call of awake returns true. -/
import Derived.Test.YthghnnhpimgbmaaGreatDoorKW
import Derived.Test.YthghnnhpimgbmaaGreatDoorWR
import Derived.Lib.LaidTab
import Derived.Stop.LaidErr
import Derived.Test.YthghnnhpimgbmaaGreatDoorKA
import Derived.Test.YthghnnhpimgbmaaGreatDoorKNames
import Derived.Test.YthghnnhpimgbmaaGreatDoorKOps
import Derived.Test.YthghnnhpimgbmaaGreatDoorKCov
import Derived.Test.YthghnnhpimgbmaaGreatDoorKChoose
import Derived.Test.YthghnnhpimgbmaaGreatDoorKLin
import Derived.Test.YthghnnhpimgbmaaGreatDoorKAsm
import Derived.Test.YthghnnhpimgbmaaGreatDoorKMain
namespace Go.Proofs.YthghnnhpimgbmaaGreatDoor
open Sx Go.RowKit
set_option maxRecDepth 100000


theorem all_nil {p : Ent → Prop} : ∀ e ∈ ([] : List Ent), p e := fun e h => by cases h
theorem all_cons {p : Ent → Prop} {a : Ent} {l : List Ent} (h : p a) (t : ∀ e ∈ l, p e) : ∀ e ∈ a :: l, p e := fun e he => by
  rcases List.mem_cons.1 he with rfl | he
  · exact h
  · exact t e he

theorem W0 : World0 Tryz.prog O0 := ⟨typesOk, mixed, noNum, extOk, dqOk, caL_ok all_nil⟩
theorem okNames : EntOk Tryz.prog entNames := .of W0 runNames
theorem okOps : EntOk Tryz.prog entOps := .of W0 runOps
theorem okPat0 : EntOk Tryz.prog entPat0 := .of W0 runPat0
theorem okPat2 : EntOk Tryz.prog entPat2 := .of W0 runPat2
theorem okRight : EntOk Tryz.prog entRight := .of W0 runRight
theorem okAll : EntOk Tryz.prog entAll := .of W0 runAll
theorem okSplit : EntOk Tryz.prog entSplit := .of W0 runSplit
theorem W1 : World0 Tryz.prog O1 := ⟨typesOk, mixed, noNum, extOk, dqOk, caL_ok (all_cons okNames (all_cons okOps (all_cons okPat0 (all_cons okPat2 (all_cons okRight (all_cons okAll all_nil))))))⟩
theorem okCov : EntOk Tryz.prog entCov := .of W1 runCov
theorem okSh0 : EntOk Tryz.prog entSh0 := .of W1 runSh0
theorem okSh1 : EntOk Tryz.prog entSh1 := .of W1 runSh1
theorem okSh2 : EntOk Tryz.prog entSh2 := .of W1 runSh2
theorem okSh3 : EntOk Tryz.prog entSh3 := .of W1 runSh3
theorem W2 : World0 Tryz.prog O2 := ⟨typesOk, mixed, noNum, extOk, dqOk,
  caL_ok (all_cons okNames (all_cons okOps (all_cons okPat0 (all_cons okPat2 (all_cons okRight (all_cons okAll (all_cons okCov (all_cons okSh0 (all_cons okSh1 (all_cons okSh2 (all_cons okSh3 all_nil)))))))))))⟩
theorem okChoose : EntOk Tryz.prog entChoose := .of W2 runChoose
theorem okSim : EntOk Tryz.prog entSim := .of W2 runSim
theorem okLin : EntOk Tryz.prog entLin := .of W2 runLin
theorem okAsm : EntOk Tryz.prog entAsm := .of W2 runAsm
theorem W3 : World0 Tryz.prog O3 := ⟨typesOk, mixed, noNum, extOk, dqOk,
  caL_ok (all_cons okNames (all_cons okOps (all_cons okPat0 (all_cons okPat2 (all_cons okRight (all_cons okAll (all_cons okCov (all_cons okSh0 (all_cons okSh1 (all_cons okSh2 (all_cons okSh3
    (all_cons okSplit (all_cons okChoose (all_cons okLin (all_cons okAsm (all_cons okSim all_nil))))))))))))))))⟩

/-! ## the table of spaces, as the program's variable holds it -/
def spaceCells : List Int := (List.range 256).map fun k => if k = 9 ∨ k = 10 ∨ k = 11 ∨ k = 12 ∨ k = 13 ∨ k = 32 then 1 else 0
/-- the variable's block -/
def SpaceIs (w : World) : Prop := ∃ cs : Array Value, w.heap[0]? = some (.cells cs 457) ∧ cs.toList = spaceCells.map fun z => Value.int .u8 z

def vrB (v : V) (z : Int) : Bool := match v with | .int .u8 n => beqI n z | _ => false
theorem space_cells : (((List.range 256).zip spaceCells).all fun p => match asciiObj.2 with | .cells _ _ dz m _ _ _ => vrB (cellAt dz m p.1) p.2 | _ => false) = true := by kernel_rfl

theorem pre0 {w : World} (hs : SpaceIs w) : Pre Tryz.prog (fun g => if g < 1000 then some ⟨g, 0, 256, 0⟩ else none) H0 w := by
  obtain ⟨cs, hb, hcs⟩ := hs
  have hget : ∀ o x, H0.get o = some x → o = 0 ∧ x = asciiObj.2 := by
    intro o x hx
    have hx' : (putObjs [asciiObj] .leaf).get o = some x := hx
    rcases putObjs_get hx' with h | h
    · rw [T.get_leaf] at h; cases h
    · have := List.mem_singleton.1 h
      have e : asciiObj = (0, asciiObj.2) := rfl
      rw [e] at this
      cases this
      exact ⟨rfl, rfl⟩
  have hlen : cs.size = 256 := by
    have := congrArg List.length hcs
    simpa [spaceCells] using this
  refine ⟨⟨fun o x hx => ?_, fun o x r o' x' r' hx _ hx' _ _ => .inl ((hget o x hx).1.trans (hget o' x' hx').1.symm)⟩, fun o ho => ?_, fun g hg => ⟨⟨g, 0, 256, 0⟩, if_pos hg, rfl, rfl⟩⟩
  · obtain ⟨rfl, rfl⟩ := hget o x hx
    refine ⟨⟨0, 0, 256, 0⟩, rfl, cs, (0, 0), hb, (show 0 + 256 = cs.size by omega), Nat.le_refl _, fun i hi => ?_, (fun h => (by cases h)), (fun h => (by cases h)), fun _ => rfl⟩
    have hz : spaceCells.length = 256 := by simp [spaceCells]
    have h1 : cs[0 + i]? = some (.int .u8 (spaceCells[i]'(by omega))) := by
      rw [Nat.zero_add, ← Array.getElem?_toList, hcs]
      simp [List.getElem?_eq_getElem (show i < spaceCells.length by omega)]
    refine ⟨_, h1, ?_⟩
    have hm : (i, spaceCells[i]'(by omega)) ∈ (List.range 256).zip spaceCells := by
      have : ((List.range 256).zip spaceCells)[i]? = some (i, spaceCells[i]'(by omega)) := by
        rw [List.getElem?_zip_eq_some]
        exact ⟨by simp [hi], List.getElem?_eq_getElem (by omega)⟩
      exact List.mem_of_getElem? this
    have hc := List.all_eq_true.1 space_cells _ hm
    simp only [asciiObj] at hc
    unfold vrB at hc
    split at hc
    · rename_i n heq
      rw [beqI_eq] at hc
      have hn : n = spaceCells[i]'(by omega) := by simpa using hc
      rw [heq, hn]
      rfl
    · cases hc
  · exact if_neg (by have : H0.next = 1000 := rfl; omega)

theorem awake_any (w : World) (hs : SpaceIs w) : Calls Tryz.prog 4 #[] w fun e w' => e = .returned (.bool true) ∧ Below w.heap.size w w' := by
  have hex := exec_ok W3 6000
  obtain ⟨h', hout⟩ : ∃ h', exec Tryz.prog O3 6000 (.call 4 [] H0) = [.val (.bool true) h'] := by
    have := runMain
    unfold isTrue at this
    split at this
    · rename_i h heq; exact ⟨h, heq⟩
    · cases this
  have hc := hex.call 4 [] H0 (by rw [hout]; exact good_val _ _)
  rw [hout] at hc
  obtain ⟨nx, w1, h1, h2, h3⟩ := hc _ w #[] (pre0 hs) rfl
  obtain ⟨rfl, rfl⟩ := h3 ⟨_, _, Tryz.func4, rfl⟩
  have h2' : CallsIn (Fr none) 0 Tryz.prog 4 #[] w1 (RetOk Tryz.prog _ H0 w1 [.val (.bool true) h']) := h2
  refine Calls.mono (callsIn_wide.1 (show CallsIn Fence.wide 0 Tryz.prog 4 #[] w1 _ from h2')) ?_
  rintro e w' ⟨v, hh, x, ρ', hm, rfl, hv, hp⟩
  simp at hm
  obtain ⟨rfl, rfl⟩ := hm
  rw [show x = .bool true from hv]
  refine ⟨rfl, hp.fr.os, hp.fr.tape, hp.fr.output, hp.fr.size, fun k hk => hp.fr.block k hk ?_⟩
  rintro ⟨o, y, r, hy, _, hmay, _, _⟩
  rw [H.may_iff] at hmay
  have e1 : H0.lim = 1000 := rfl
  have e2 : H0.exc = 1000 := rfl
  have := (pre0 hs).ne_next hy
  have e3 : H0.next = 1000 := rfl
  omega
end Go.Proofs.YthghnnhpimgbmaaGreatDoor
