/- Closed facts. -/
import Derived.Test.YtkapnepkkeaiaaaGreatDoorDH0
namespace Go.Proofs.YtkapnepkkeaiaaaGreatDoor
open Go
set_option maxRecDepth 100000
def beqL : List Nat → List Nat → Bool
  | [], [] => true
  | a :: x, b :: y => match Nat.beq a b with | true => beqL x y | false => false
  | _, _ => false
theorem beqL_eq : ∀ {a b : List Nat}, beqL a b = true → a = b
  | [], [], _ => rfl
  | a :: x, b :: y, h => by
    unfold beqL at h
    split at h
    · rename_i hb
      rw [Nat.eq_of_beq_eq_true hb, beqL_eq h]
    · cases h
  | [], b :: y, h => by simp [beqL] at h
  | a :: x, [], h => by simp [beqL] at h
def tabsOk : List (List Nat) → Nat → Bool
  | [], _ => true
  | l :: r, i => match beqL (tab i) l with | true => tabsOk r (Nat.succ i) | false => false
theorem tabsOk_spec : ∀ {l : List (List Nat)} {i : Nat}, tabsOk l i = true → ∀ k x, l[k]? = some x → tab (i + k) = x
  | [], _, _, k, x, h => by simp at h
  | l :: r, i, h, k, x, hx => by
    unfold tabsOk at h
    split at h
    · rename_i hb
      cases k with
      | zero => simp at hx; subst hx; exact beqL_eq hb
      | succ k =>
        have := tabsOk_spec h k x (by simpa using hx)
        rw [show i + (k + 1) = Nat.succ i + k by omega]
        exact this
    · cases h
theorem tabs : tabsOk LT 0 = true := by kernel_rfl
/-- the walk over names, by a mask -/
def closeM : Nat → List Nat → Nat → List Nat → List Nat
  | 0, _, _, seen => seen.reverse
  | _ + 1, [], _, seen => seen.reverse
  | n + 1, f :: todo, mask, seen => match Nat.testBit mask f with
    | true => closeM n todo mask seen
    | false => closeM n (tab f ++ todo) (Nat.lor mask (Nat.shiftLeft 1 f)) (f :: seen)
theorem bit_new (m f g : Nat) : Nat.testBit (Nat.lor m (Nat.shiftLeft 1 f)) g = (Nat.testBit m g || decide (g = f)) := by
  show Nat.testBit (m ||| (1 <<< f)) g = _
  rw [Nat.testBit_or, Nat.one_shiftLeft, Nat.testBit_two_pow]
  congr 1
  simp [eq_comm]
theorem closeM_ok (P : Program) (ht : ∀ f, (P.funcs[f]?).elim [] P.leadsTo = tab f) : ∀ (n : Nat) (todo : List Nat) (mask : Nat) (seen : List Nat), (∀ g, Nat.testBit mask g = seen.contains g) → P.closureVia n todo seen = closeM n todo mask seen
  | 0, _, _, _, _ => by unfold Program.closureVia closeM; rfl
  | n + 1, [], _, _, _ => by unfold Program.closureVia closeM; rfl
  | n + 1, f :: todo, mask, seen, hm => by
    unfold Program.closureVia closeM
    rw [hm f]
    cases hc : seen.contains f with
    | true => simp only [if_true]; exact closeM_ok P ht n todo mask seen hm
    | false =>
      simp only [Bool.false_eq_true, if_false]
      rw [ht f]
      refine closeM_ok P ht n _ _ _ fun g => ?_
      rw [bit_new, hm g, List.contains_cons]
      by_cases h : g = f
      · subst h; simp
      · simp [h]
theorem lead_at (f : Nat) : (Tryz.prog.funcs[f]?).elim [] Tryz.prog.leadsTo = tab f := by
  cases h : Tryz.prog.funcs[f]? with
  | some fn =>
    have h1 : (Tryz.prog.funcs.toList.map Tryz.prog.leadsTo)[f]? = some (Tryz.prog.leadsTo fn) := by
      rw [List.getElem?_map, Array.getElem?_toList, h]; rfl
    rw [lead] at h1
    have := tabsOk_spec tabs f _ h1
    rw [Nat.zero_add] at this
    exact this.symm
  | none =>
    have h1 : (Tryz.prog.funcs.toList.map Tryz.prog.leadsTo)[f]? = none := by
      rw [List.getElem?_map, Array.getElem?_toList, h]; rfl
    rw [lead, List.getElem?_eq_none_iff] at h1
    show ([] : List Nat) = tab f
    have h3 : LT.length = 736 := by kernel_rfl
    rw [h3] at h1
    unfold tab
    rw [Nat.ble_eq_true_of_le h1]
theorem fuelT : 1 + (LT.map fun l => l.length + 1).sum = 2124 := by kernel_rfl
theorem fuel_eq : 1 + (Tryz.prog.funcs.toList.map fun g => (Tryz.prog.leadsTo g).length + 1).sum = 2124 := by
  have : (Tryz.prog.funcs.toList.map fun g => (Tryz.prog.leadsTo g).length + 1) = LT.map fun l => l.length + 1 := by
    rw [← lead, List.map_map]; rfl
  rw [this]
  exact fuelT
theorem walk : closeM 2124 [3] 0 [] = CL := by kernel_rfl
theorem closure3 : Tryz.prog.closure 3 = CL := by
  unfold Program.closure
  rw [fuel_eq, closeM_ok Tryz.prog lead_at 2124 [3] 0 [] (fun g => by simp), walk]
end Go.Proofs.YtkapnepkkeaiaaaGreatDoor
