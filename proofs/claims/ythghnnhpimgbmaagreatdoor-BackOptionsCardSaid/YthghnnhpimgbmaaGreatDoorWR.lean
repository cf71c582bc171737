/- Walks of Right and Options. -/
import Derived.Test.YthghnnhpimgbmaaGreatDoorRows
import Derived.WalkKit
import Derived.WalkSpells
import Derived.WalkLawsBesides
import Derived.Lib.Hide
import Derived.StillTailTactics
namespace Go.Proofs.YthghnnhpimgbmaaGreatDoor
open Go.RowKit

theorem run_max4 (P : Program) (w : World) (ts : Array TypeId) (t : TypeId) (x y z u : Int) : (Builtin.max_ ts t #[.int .i64 x, .int .i64 y, .int .i64 z, .int .i64 u]).run P w = .ok (.int .i64 (max (max (max x y) z) u)) w := by
  have h : ∀ a b : Int, (if a < b then b else a) = max a b := by intro a b; omega
  simp [Builtin.max_, Builtin.max2, h]

def descB (m d l t : Int) : Bool := decide (1 ≤ m ∧ m ≤ 20 ∧ 1 ≤ d ∧ d ≤ 20 ∧ 1 ≤ l ∧ l ≤ 20 ∧ 0 ≤ t ∧ t ≤ 20)
def rightB (k m d l t : Int) : Bool := decide (4 ≤ k ∧ k ≤ 16 ∧ 1 ≤ m ∧ m ≤ 20 ∧ 1 ≤ d ∧ d ≤ 20 ∧ 1 ≤ l ∧ l ≤ 20 ∧ 0 ≤ t ∧ t ≤ 20)
theorem ret_bool {a b : Bool} (h : a = b) : Ending.returned (.bool a) = .returned (.bool b) := by rw [h]

set_option maxHeartbeats 1000000 in
theorem pRight_any (m d l t : Int) (w : World) :
    Calls Tryz.prog 12 #[.agg #[.int .i64 m, .int .i64 d, .int .i64 l, .int .i64 t]] w fun e w' => e = .returned (.bool (descB m d l t)) ∧ w' = w.alloc (.cells #[.int .i64 m, .int .i64 d, .int .i64 l, .int .i64 t] 23) := by
  have hmax := fun w ts t => run_max4 Tryz.prog w ts t m d l
  go_enter Tryz.func12, Tryz.ntmps12
  go_wp2
  all_goals (go_ret; refine ⟨ret_bool ?_, ?_⟩)
  all_goals first
    | rfl
    | (show _ = descB m d l t
       unfold descB
       rw [Bool.eq_iff_iff]
       simp only [decide_eq_true_eq, Bool.false_eq_true, false_iff]
       omega)
abbrev optV (k : Int) (b1 b2 b3 : Bool) (m d l t : Int) : Array Value := #[.int .i64 k, .bool b1, .bool b2, .bool b3, .int .i64 m, .int .i64 d, .int .i64 l, .int .i64 t]
set_option maxHeartbeats 1000000 in
theorem bRight_any (k : Int) (b1 b2 b3 : Bool) (m d l t : Int) (w : World) :
    Calls Tryz.prog 5 #[.agg (optV k b1 b2 b3 m d l t)] w fun e w' => e = .returned (.bool (rightB k m d l t)) ∧ Below w.heap.size w w' := by
  go_enter Tryz.func5, Tryz.ntmps5
  go_wp2_with (go_at_call 12; refine (pRight_any _ _ _ _ _).mono ?_; rintro e w' ⟨rfl, rfl⟩)
  all_goals (go_ret; refine ⟨ret_bool ?_, ?_⟩)
  all_goals first
    | exact (Below.refl _ _).alloc (Nat.le_refl _) _
    | exact ((Below.refl _ _).alloc (Nat.le_refl _) _).alloc (by simp) _
    | (show _ = rightB k m d l t
       unfold rightB
       try unfold descB
       rw [Bool.eq_iff_iff]
       simp only [decide_eq_true_eq, Bool.false_eq_true, false_iff]
       omega)

set_option maxHeartbeats 1000000 in
theorem rRight_any (k : Int) (b1 b2 b3 : Bool) (m d l t : Int) (w : World) :
    Calls Tryz.prog 6 #[.agg (optV k b1 b2 b3 m d l t)] w fun e w' => e = .returned (.bool (rightB k m d l t)) ∧ Below w.heap.size w w' := by
  go_enter Tryz.func6, Tryz.ntmps6
  go_wp2
  all_goals (go_ret; refine ⟨ret_bool ?_, ?_⟩)
  all_goals first
    | exact (Below.refl _ _).alloc (Nat.le_refl _) _
    | exact ((Below.refl _ _).alloc (Nat.le_refl _) _).alloc (by simp) _
    | (show _ = rightB k m d l t
       unfold rightB
       try unfold descB
       rw [Bool.eq_iff_iff]
       simp only [decide_eq_true_eq, Bool.false_eq_true, false_iff]
       omega)
/-- a remainder of some kind -/
theorem rest_any (x n : Int) (w : World) (h0 : 1 ≤ n) (h1 : n ≤ 20) :
    Calls Tryz.prog 13 #[.int .i64 x, .int .i64 n] w fun e w' => e = .returned (.int .i64 ((x.tmod n + n).tmod n)) ∧ w' = w := by
  have hb1 : -20 ≤ x.tmod n := by have := Int.lt_tmod_of_pos x (by omega : 0 < n); omega
  have hb2 : x.tmod n ≤ 20 := by have := Int.tmod_lt_of_pos x (by omega : 0 < n); omega
  go_enter Tryz.func13, Tryz.ntmps13
  have hne : n ≠ 0 := by omega
  go_wp2
  go_ret
  exact ⟨rfl, rfl⟩

theorem rest_range (x n : Int) (h0 : 1 ≤ n) : 0 ≤ (x.tmod n + n).tmod n ∧ (x.tmod n + n).tmod n < n := by
  have h1 := Int.lt_tmod_of_pos x (by omega : 0 < n)
  exact ⟨Int.tmod_nonneg _ (by omega), Int.tmod_lt_of_pos _ (by omega)⟩

theorem cell_first (w : World) (cs : Array Value) (t : TypeId) (fr : Nat × Nat) (o : Obj) (n i : Nat) (v : Value) (h : cs[i]? = some v) : World.cell? { (w.alloc (.cells cs t fr)).alloc o with drawn := n } ⟨w.heap.size, i, none⟩ = some v := by
  have hp : ((w.heap.push (.cells cs t fr)).push o)[w.heap.size]? = some (.cells cs t fr) := by
    rw [Array.getElem?_push, if_neg (by simp), Array.getElem?_push, if_pos rfl]
  show World.cell? { w with heap := (w.heap.push (.cells cs t fr)).push o, drawn := n } ⟨w.heap.size, i, none⟩ = some v
  unfold World.cell?
  simp only [hp]
  exact h

def OptOut (w : World) (e : Ending) (w' : World) : Prop := ∃ k b1 b2 b3 m d l t, rightB k m d l t = true ∧ e = .returned (.agg (optV k b1 b2 b3 m d l t)) ∧ Below w.heap.size w w'

set_option maxRecDepth 100000 in
set_option maxHeartbeats 1000000 in
theorem options_any (q0 q1 q2 q3 : Int) (w : World) :
    Calls Tryz.prog 7 #[.agg #[.int .i64 q0, .int .i64 q1, .int .i64 q2, .int .i64 q3]] w (OptOut w) := by
  go_enter Tryz.func7, Tryz.ntmps7
  go_wp2
  refine wp_region_still_tail 35 (by kernel_rfl) (by kernel_rfl) ?_
  simp only [List.take_succ_cons, List.take_zero, List.drop_succ_cons, List.drop_zero]
  obtain ⟨W, hW⟩ : ∃ W : World, W = (w.alloc (.cells #[.int .i64 q0, .int .i64 q1, .int .i64 q2, .int .i64 q3] 26)).alloc (.cells #[.int .i64 0, .bool false, .bool false, .bool false, .int .i64 0, .int .i64 0, .int .i64 0, .int .i64 0] 25) := ⟨_, rfl⟩
  rw [← hW]
  obtain ⟨w2, hw2⟩ : ∃ w2 : World, w2 = { W with drawn := W.drawn + 1 } := ⟨_, rfl⟩
  rw [← hw2]
  have c0 : w2.cell? ⟨w.heap.size, 0, none⟩ = some (.int .i64 q0) := by rw [hw2, hW]; exact cell_first _ _ _ _ _ _ _ _ rfl
  have c1 : w2.cell? ⟨w.heap.size, 1, none⟩ = some (.int .i64 q1) := by rw [hw2, hW]; exact cell_first _ _ _ _ _ _ _ _ rfl
  have c2 : w2.cell? ⟨w.heap.size, 2, none⟩ = some (.int .i64 q2) := by rw [hw2, hW]; exact cell_first _ _ _ _ _ _ _ _ rfl
  have c3 : w2.cell? ⟨w.heap.size, 3, none⟩ = some (.int .i64 q3) := by rw [hw2, hW]; exact cell_first _ _ _ _ _ _ _ _ rfl
  have HW := Lib.hid hW
  have HW2 := Lib.hid hw2
  clear hW hw2
  repeat still_step
  still_call (rest_any _ _ _ (by omega) (by omega))
  repeat still_step
  still_call (rest_any _ _ _ (by omega) (by omega))
  repeat still_step
  still_call (rest_any _ _ _ (by omega) (by omega))
  repeat still_step
  still_call (rest_any _ _ _ (by omega) (by omega))
  repeat still_step
  still_call (rest_any _ _ _ (by omega) (by omega))
  repeat still_step
  refine wpStill_nil ?_
  have e2 : w2 = W.drew := HW2.out
  rw [e2, HW.out]
  clear c0 c1 c2 c3 e2
  go_wp2
  have r0 := rest_range q0 13 (by omega)
  have r2 := rest_range q2 6 (by omega)
  have r3 := rest_range (wrap64 (q2.tdiv 8)) 20 (by omega)
  have r4 := rest_range q3 5 (by omega)
  have r5 := rest_range (wrap64 (q3.tdiv 8)) 4 (by omega)
  have wr : ∀ x : Int, 0 ≤ x → x ≤ 100 → wrap64 x = x := by intro x h1 h2; unfold wrap64; omega
  refine bodyPost_ret (v := .agg (optV (wrap64 (4 + (q0.tmod 13 + 13).tmod 13)) (bits BinOp.and IntKind.i64 q1 1 == 1) (bits BinOp.and IntKind.i64 q1 2 == 2) (bits BinOp.and IntKind.i64 q1 4 == 4) (wrap64 (1 + (q2.tmod 6 + 6).tmod 6))
    (wrap64 (1 + ((wrap64 (q2.tdiv 8)).tmod 20 + 20).tmod 20)) (wrap64 (1 + (q3.tmod 5 + 5).tmod 5)) (((wrap64 (q3.tdiv 8)).tmod 4 + 4).tmod 4))) (by simp [results, Tryz.results7, go_sem]) rfl ⟨_, _, _, _, _, _, _, _, ?_, rfl, ?_⟩
  · generalize wrap64 (q2.tdiv 8) = x2 at *
    generalize wrap64 (q3.tdiv 8) = x3 at *
    rw [wr _ (by omega) (by omega), wr _ (by omega) (by omega), wr _ (by omega) (by omega), wr _ (by omega) (by omega)]
    unfold rightB
    simp only [decide_eq_true_eq]
    omega
  · exact (((Below.refl _ _).alloc (Nat.le_refl _) _).alloc (by simp) _).drew
end Go.Proofs.YthghnnhpimgbmaaGreatDoor
