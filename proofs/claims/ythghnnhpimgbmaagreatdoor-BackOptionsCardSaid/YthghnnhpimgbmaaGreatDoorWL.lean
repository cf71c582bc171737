/- The law's walk. -/
import Derived.Test.YthghnnhpimgbmaaGreatDoorWA
import Derived.Deep.RegionWith
namespace Go.Proofs.YthghnnhpimgbmaaGreatDoor
open Go.RowKit

theorem SpaceIs.alloc {w : World} (h : SpaceIs w) (o : Obj) : SpaceIs (w.alloc o) := by
  obtain ⟨cs, hb, hc⟩ := h
  have hlt : 0 < w.heap.size := (Array.getElem?_eq_some_iff.1 hb).1
  exact ⟨cs, (Below.heap_alloc w o 0 hlt).trans hb, hc⟩

theorem bRight_true (k : Int) (b1 b2 b3 : Bool) (m d l t : Int) (w : World) (h : rightB k m d l t = true) :
    Calls Tryz.prog 5 #[.agg (optV k b1 b2 b3 m d l t)] w fun e w' => e = .returned (.bool true) ∧ Below w.heap.size w w' := by
  have := bRight_any k b1 b2 b3 m d l t w
  rw [h] at this
  exact this

/-- the two boxed arguments -/
def Cs (n : Nat) (k : Int) (b1 b2 b3 : Bool) (m d l t q0 q1 q2 q3 : Int) (w : World) : Prop :=
  n + 1 < w.heap.size ∧ w.heap[n]? = some (.cells (optV k b1 b2 b3 m d l t) 25) ∧ w.heap[n + 1]? = some (.cells #[.int .i64 q0, .int .i64 q1, .int .i64 q2, .int .i64 q3] 26)
theorem Cs.keep {n : Nat} {k : Int} {b1 b2 b3 : Bool} {m d l t q0 q1 q2 q3 : Int} {w w' : World} (h : Cs n k b1 b2 b3 m d l t q0 q1 q2 q3 w) (hb : Below w.heap.size w w') : Cs n k b1 b2 b3 m d l t q0 q1 q2 q3 w' := by
  obtain ⟨h1, h2, h3⟩ := h
  exact ⟨Nat.lt_of_lt_of_le h1 hb.size, (hb.block _ (by omega)).trans h2, (hb.block _ (by omega)).trans h3⟩
theorem Cs.drew {n : Nat} {k : Int} {b1 b2 b3 : Bool} {m d l t q0 q1 q2 q3 : Int} {w : World} (h : Cs n k b1 b2 b3 m d l t q0 q1 q2 q3 w) : Cs n k b1 b2 b3 m d l t q0 q1 q2 q3 w.drew := h
theorem Cs.out {n : Nat} {k : Int} {b1 b2 b3 : Bool} {m d l t q0 q1 q2 q3 : Int} {w : World} (h : Cs n k b1 b2 b3 m d l t q0 q1 q2 q3 w) :
    w.cell? ⟨n, 0, none⟩ = some (.int .i64 k) ∧ w.cell? ⟨n, 1, none⟩ = some (.bool b1) ∧ w.cell? ⟨n, 2, none⟩ = some (.bool b2) ∧ w.cell? ⟨n, 3, none⟩ = some (.bool b3) ∧
    w.cell? ⟨n, 4, none⟩ = some (.int .i64 m) ∧ w.cell? ⟨n, 5, none⟩ = some (.int .i64 d) ∧ w.cell? ⟨n, 6, none⟩ = some (.int .i64 l) ∧ w.cell? ⟨n, 7, none⟩ = some (.int .i64 t) ∧
    w.cell? ⟨n + 1, 0, none⟩ = some (.int .i64 q0) ∧ w.cell? ⟨n + 1, 1, none⟩ = some (.int .i64 q1) ∧ w.cell? ⟨n + 1, 2, none⟩ = some (.int .i64 q2) ∧ w.cell? ⟨n + 1, 3, none⟩ = some (.int .i64 q3) := by
  obtain ⟨_, h2, h3⟩ := h
  refine ⟨?_, ?_, ?_, ?_, ?_, ?_, ?_, ?_, ?_, ?_, ?_, ?_⟩ <;> (unfold World.cell?; simp only [h2, h3]; rfl)

/-- what the call began with is as it was -/
def BB (w0 w1 : World) : Prop := w1.os = w0.os ∧ w1.tape = w0.tape ∧ w1.output = w0.output ∧ w0.heap.size ≤ w1.heap.size ∧ ∀ k, k < w0.heap.size → w1.heap[k]? = w0.heap[k]?
theorem BB.of {w0 w1 : World} (h : Below w0.heap.size w0 w1) : BB w0 w1 := ⟨h.os, h.tape, h.output, h.size, h.block⟩
theorem BB.out {w0 w1 : World} (h : BB w0 w1) : Below w0.heap.size w0 w1 := ⟨h.1, h.2.1, h.2.2.1, h.2.2.2.1, h.2.2.2.2⟩
theorem BB.keep {w0 w1 w2 : World} (h : BB w0 w1) (k : Below w1.heap.size w1 w2) : BB w0 w2 := .of (h.out.trans (k.mono h.2.2.2.1))

set_option maxRecDepth 100000 in
set_option maxHeartbeats 1000000 in
theorem law_any (k : Int) (b1 b2 b3 : Bool) (m d l t q0 q1 q2 q3 : Int) (w : World) (hs : SpaceIs w) :
    Calls Tryz.prog 3 #[.agg (optV k b1 b2 b3 m d l t), .agg #[.int .i64 q0, .int .i64 q1, .int .i64 q2, .int .i64 q3]] w fun e w' => e = .returned (.bool true) ∧ Below w.heap.size w w' := by
  have aw := awake_any _ ((hs.alloc (.cells (optV k b1 b2 b3 m d l t) 25)).alloc (.cells #[.int .i64 q0, .int .i64 q1, .int .i64 q2, .int .i64 q3] 26))
  have HA := Lib.hid aw
  clear aw hs
  have HC0 : Cs w.heap.size k b1 b2 b3 m d l t q0 q1 q2 q3 ((w.alloc (.cells (optV k b1 b2 b3 m d l t) 25)).alloc (.cells #[.int .i64 q0, .int .i64 q1, .int .i64 q2, .int .i64 q3] 26)) := by
    refine ⟨by simp, ?_, ?_⟩
    · show ((w.heap.push _).push _)[w.heap.size]? = _
      rw [Array.getElem?_push, if_neg (by simp), Array.getElem?_push, if_pos rfl]
    · show ((w.heap.push _).push _)[w.heap.size + 1]? = _
      rw [Array.getElem?_push, if_pos (by simp)]
  go_enter Tryz.func3, Tryz.ntmps3
  go_wp2_with fail
  refine HA.out.mono ?_
  rintro e w1 ⟨rfl, hb1⟩
  have hC1 := HC0.keep hb1
  have hB1 : BB w w1 := .of <| (((Below.refl _ _).alloc (Nat.le_refl _) _).alloc (by simp) _).trans (hb1.mono (by simp; omega))
  clear hb1 HA HC0
  have hz := hC1.1
  obtain ⟨a0, a1, a2, a3, a4, a5, a6, a7, a8, a9, a10, a11⟩ := hC1.out
  go_wp2_with fail
  go_region_with (first
    | (go_at_call 5; refine (bRight_any _ _ _ _ _ _ _ _ _).mono ?_; rintro e w2 ⟨rfl, hb2⟩; have hC2 := Cs.keep (by assumption) hb2; have hBB := BB.keep (w0 := w) (by assumption) hb2; clear hb2; obtain ⟨a0, a1, a2, a3, a4, a5, a6, a7, a8, a9, a10, a11⟩ := hC2.out)
    | (go_at_call 6; refine (rRight_any _ _ _ _ _ _ _ _ _).mono ?_; rintro e w2 ⟨rfl, hb2⟩; have hC2 := Cs.keep (by assumption) hb2; have hBB := BB.keep (w0 := w) (by assumption) hb2; clear hb2; obtain ⟨a0, a1, a2, a3, a4, a5, a6, a7, a8, a9, a10, a11⟩ := hC2.out)
    | (go_at_call 7; refine (options_any _ _ _ _ _).mono ?_; rintro e w2 ⟨k', b1', b2', b3', m', d', l', t', hr, rfl, hb2⟩; have hC2 := Cs.keep (by assumption) hb2; have hBB := BB.keep (w0 := w) (by assumption) hb2; clear hb2; obtain ⟨a0, a1, a2, a3, a4, a5, a6, a7, a8, a9, a10, a11⟩ := hC2.out))
  all_goals (go_wp2; go_ret; refine ⟨?_, BB.out (by assumption)⟩)
  all_goals first
    | rfl
    | exact ret_bool (by assumption)
end Go.Proofs.YthghnnhpimgbmaaGreatDoor
