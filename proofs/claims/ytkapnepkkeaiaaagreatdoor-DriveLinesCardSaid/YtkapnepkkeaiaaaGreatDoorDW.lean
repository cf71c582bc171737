/- Walks of short, Words, Lines, wordsOf, Lines, Same. -/
import Derived.Lib.FieldsP
import Derived.Lib.SpaceUEq
import Derived.Lib.SplitLaws
import Derived.Lib.CutLaws
import Derived.Test.YtkapnepkkeaiaaaGreatDoorProg
import Derived.Shelf.Strings.FieldsFuncGrows
import Derived.Shelf.Strings.SplitShaped
import Derived.Shelf.Strings.Shaped
import Derived.KernelRfl
import Derived.WalkKit
import Derived.WalkMore
import Derived.WalkSpells
import Derived.WalkLawsBesides
import Derived.Below
import Derived.Lib.Hide
import Derived.Maps.AppendAt
import Derived.Laws.OwnMore
import Derived.Deep.QuietTactic
import Derived.BigQuiet
import Derived.Deep.Draws
/- Lines and words of a text, in plain lists: what the program's way gives is what the document's way gives. -/
namespace Dl
open Go Go.Lib

/-- a blank, or a tab -/
def gap (c : UInt8) : Bool := c == 32 || c == 9
/-- .. of runes -/
def gapR (n : Nat) : Bool := n == 32 || n == 9

/-- the document's words of a line: w is the word under way -/
def wordsB : List UInt8 → List UInt8 → List (List UInt8)
  | [], w => if w = [] then [] else [w]
  | c :: l, w =>
    if c = 35 then (if w = [] then [] else [w])
    else if gap c then (if w = [] then wordsB l [] else w :: wordsB l [])
    else wordsB l (w ++ [c])

/-- words between gaps -/
def fieldsC : List UInt8 → List UInt8 → List (List UInt8)
  | [], w => if w = [] then [] else [w]
  | c :: l, w =>
    if gap c then (if w = [] then fieldsC l [] else w :: fieldsC l [])
    else fieldsC l (w ++ [c])

def put (w : List (List UInt8)) (r : List (List (List UInt8))) : List (List (List UInt8)) := if w = [] then r else w :: r

/-- the document's lines of a text: l is the line under way -/
def linesB : List UInt8 → List UInt8 → List (List (List UInt8))
  | [], l => put (wordsB l []) []
  | c :: s, l => if c = 10 then put (wordsB l []) (linesB s []) else linesB s (l ++ [c])

/-- the program's words of a line -/
def wordsG (l : List UInt8) : List (List UInt8) := (goFieldsP gapR ⟨(cut l [35]).1.toArray⟩).map (·.data.toList)
/-- .. of lines -/
def putAll : List (List UInt8) → List (List (List UInt8))
  | [] => []
  | l :: r => put (wordsG l) (putAll r)
/-- the program's lines of a text -/
def linesG (s : List UInt8) : List (List (List UInt8)) := putAll (split s [10])

/-! ## words -/
theorem fieldsC_run (l r : List UInt8) : ∀ w, (∀ c ∈ l, gap c = false) → fieldsC (l ++ r) w = fieldsC r (w ++ l) := by
  induction l with
  | nil => intro w _; simp
  | cons c l ih =>
    intro w h
    have hc := h c (by simp)
    simp only [List.cons_append, fieldsC, hc, Bool.false_eq_true, if_false]
    rw [ih _ fun d hd => h d (by simp [hd])]
    simp

theorem gap_small {c : UInt8} (h : 128 ≤ c.toNat) : gap c = false := by
  unfold gap
  have h1 : ¬ c = 32 := fun e => by subst e; simp at h
  have h2 : ¬ c = 9 := fun e => by subst e; simp at h
  simp [h1, h2]

theorem gap_toNat (c : UInt8) : gapR c.toNat = gap c := by
  unfold gap gapR
  congr 1
  · rw [Bool.eq_iff_iff]; simp; exact ⟨fun h => UInt8.toNat_inj.1 h, fun h => by rw [h]; rfl⟩
  · rw [Bool.eq_iff_iff]; simp; exact ⟨fun h => UInt8.toNat_inj.1 h, fun h => by rw [h]; rfl⟩

/-- what a rune's bytes are, as far as gaps go -/
theorem rune_gaps (l : List UInt8) (hne : l ≠ []) :
    (decodeL l).2 ≤ l.length ∧ 1 ≤ (decodeL l).2 ∧
    (gapR (decodeL l).1 = true → (decodeL l).2 = 1 ∧ ∃ c t, l = c :: t ∧ gap c = true) ∧
    (gapR (decodeL l).1 = false → ∀ c ∈ l.take (decodeL l).2, gap c = false) := by
  have hl : 0 < l.length := List.length_pos_iff.2 hne
  have hw := decodeL_width l
  have hle : (decodeL l).2 ≤ l.length := by rw [decodeL_N]; exact decodeN_le_n' _ _ _ _ _ (by omega)
  obtain ⟨c, t, rfl⟩ : ∃ c t, l = c :: t := by
    cases l with
    | nil => exact absurd rfl hne
    | cons c t => exact ⟨c, t, rfl⟩
  refine ⟨hle, hw, ?_, ?_⟩
  · intro hg
    by_cases hc : c.toNat < 128
    · rw [decodeL_ascii c t hc] at hg ⊢
      exact ⟨rfl, c, t, rfl, by rw [← gap_toNat]; exact hg⟩
    · exfalso
      rw [decodeL_N] at hg
      have h0 : ((c :: t).getD 0 0).toNat = c.toNat := rfl
      rw [h0] at hg
      rcases decodeN_cases (c :: t).length c.toNat ((c :: t).getD 1 0).toNat ((c :: t).getD 2 0).toNat ((c :: t).getD 3 0).toNat with ⟨a, e⟩ | ⟨_, _, _, a, e⟩ | ⟨_, _, _, _, a, e⟩ | ⟨a, e⟩ | e
      · exact hc a
      · rw [e] at hg
        simp only [gapR, Bool.or_eq_true, beq_iff_eq] at hg
        omega
      · rw [e] at hg
        simp only [gapR, Bool.or_eq_true, beq_iff_eq] at hg
        omega
      · generalize (decodeN _ _ _ _ _).1 = X at hg a
        simp only [gapR, Bool.or_eq_true, beq_iff_eq] at hg
        omega
      · rw [e] at hg
        simp [gapR] at hg
  · intro hg
    by_cases hc : c.toNat < 128
    · rw [decodeL_ascii c t hc] at hg ⊢
      intro d hd
      simp at hd
      subst hd
      rw [← gap_toNat]; exact hg
    · have hk := decodeN_conts (c :: t).length ((c :: t).getD 0 0).toNat ((c :: t).getD 1 0).toNat ((c :: t).getD 2 0).toNat ((c :: t).getD 3 0).toNat
      rw [← decodeL_N] at hk
      obtain ⟨k1, k2, k3, k4⟩ := hk
      intro d hd
      obtain ⟨j, hj, rfl⟩ := List.mem_iff_getElem.1 hd
      rw [List.length_take] at hj
      have hjk : j < (decodeL (c :: t)).2 := by omega
      have e : (List.take (decodeL (c :: t)).2 (c :: t))[j]'(by rw [List.length_take]; exact hj) = (c :: t).getD j 0 := by
        rw [List.getElem_take, List.getD_eq_getElem?_getD, List.getElem?_eq_getElem (by omega)]; rfl
      rw [e]
      apply gap_small
      match j, hjk with
      | 0, _ => show 128 ≤ c.toNat; omega
      | 1, h => have := (k1 (by omega)).1; omega
      | 2, h => have := (k2 (by omega)).1; omega
      | 3, h => have := (k3 (by omega)).1; omega
      | j + 4, h => omega

/-- the pass over the runes -/
theorem spans_c (s : ByteArray) : ∀ (f pos : Nat) (st : Option Nat) (acc : List (Nat × Nat)), s.size ≤ pos + f → pos ≤ s.size → (∀ a, st = some a → a < pos) →
    acc.map (fun p => pieceU s.data.toList p.1 p.2) ++ fieldsC (s.data.toList.drop pos) (openPiece s.data.toList st pos) = (closeSpans s (spansFromP gapR s f pos st acc)).map (fun p => pieceU s.data.toList p.1 p.2) := by
  intro f
  induction f with
  | zero =>
    intro pos st acc h hp hst
    obtain rfl : pos = s.size := by omega
    have hd : s.data.toList.drop s.size = [] := List.drop_eq_nil_of_le (by rw [← size_eq]; exact Nat.le_refl _)
    rw [hd]
    cases st with
    | none => simp [spansFromP, closeSpans, openPiece, fieldsC]
    | some a =>
      have := pieceU_ne s.data.toList a s.size (hst a rfl) (by rw [← size_eq]; exact Nat.le_refl _)
      simp [spansFromP, closeSpans, openPiece, this, fieldsC]
  | succ f ih =>
    intro pos st acc h hp hst
    by_cases hlt : pos < s.size
    · have hne : s.data.toList.drop pos ≠ [] := by
        intro h0
        have := congrArg List.length h0
        rw [List.length_drop, ← size_eq] at this
        simp at this
        omega
      obtain ⟨g1, g2, g3, g4⟩ := rune_gaps _ hne
      rw [decodeL_drop] at g1 g2 g3 g4
      have hwn : pos + (Utf8.decode s pos).2 ≤ s.size := by
        rw [List.length_drop, ← size_eq] at g1
        omega
      simp only [spansFromP, if_pos hlt]
      cases hsp : gapR (Utf8.decode s pos).1 with
      | true =>
        obtain ⟨w1, c, t, ec, hc⟩ := g3 hsp
        have et : s.data.toList.drop (pos + 1) = t := by rw [← List.drop_drop, ec]; rfl
        simp only [if_true]
        rw [w1, ec]
        cases st with
        | none =>
          have ih := ih (pos + 1) none acc (by omega) (by omega) (fun a h => by cases h)
          rw [← ih, et]
          simp [fieldsC, hc, openPiece]
        | some a =>
          have hpn := pieceU_ne s.data.toList a pos (hst a rfl) (by rw [← size_eq]; omega)
          have ih := ih (pos + 1) none (acc ++ [(a, pos)]) (by omega) (by omega) (fun a h => by cases h)
          rw [← ih, et]
          simp [fieldsC, hc, openPiece, hpn]
      | false =>
        have hrun := g4 hsp
        have hsplit : s.data.toList.drop pos = (s.data.toList.drop pos).take (Utf8.decode s pos).2 ++ s.data.toList.drop (pos + (Utf8.decode s pos).2) := by
          rw [← List.drop_drop, List.take_append_drop]
        rw [hsplit, fieldsC_run _ _ _ hrun]
        simp only [Bool.false_eq_true, if_false]
        cases st with
        | none =>
          have ih := ih (pos + (Utf8.decode s pos).2) (some pos) acc (by omega) hwn (fun a h => by cases h; omega)
          have e : ([] : List UInt8) ++ (s.data.toList.drop pos).take (Utf8.decode s pos).2 = pieceU s.data.toList pos (pos + (Utf8.decode s pos).2) := by
            unfold pieceU
            rw [List.nil_append, Nat.add_sub_cancel_left]
          simp only [openPiece] at ih ⊢
          rw [e]
          exact ih
        | some a =>
          have ih := ih (pos + (Utf8.decode s pos).2) (some a) acc (by omega) hwn (fun b h => by cases h; have := hst a rfl; omega)
          simp only [openPiece] at ih ⊢
          rw [pieceU_grow _ _ _ _ (Nat.le_of_lt (hst a rfl))]
          exact ih
    · obtain rfl : pos = s.size := by omega
      have hd : s.data.toList.drop s.size = [] := List.drop_eq_nil_of_le (by rw [← size_eq]; exact Nat.le_refl _)
      rw [hd, spansFromP_end _ s _ _ _ _ hlt]
      cases st with
      | none => simp [closeSpans, openPiece, fieldsC]
      | some a =>
        have := pieceU_ne s.data.toList a s.size (hst a rfl) (by rw [← size_eq]; exact Nat.le_refl _)
        simp [closeSpans, openPiece, this, fieldsC]

theorem fields_c (s : ByteArray) : (goFieldsP gapR s).map (·.data.toList) = fieldsC s.data.toList [] := by
  have h := spans_c s s.size 0 none [] (by omega) (Nat.zero_le _) (fun a h => by cases h)
  simp only [List.map_nil, List.nil_append, openPiece, List.drop_zero] at h
  unfold goFieldsP spansOfP
  rw [h, List.map_map]
  congr 1
  funext p
  simp [pieceU]

/-! ## the cut at a sign -/
def upTo (d : UInt8) : List UInt8 → List UInt8
  | [] => []
  | c :: l => if c = d then [] else c :: upTo d l

theorem index_cons (b c : UInt8) (l : List UInt8) : index (b :: l) [c] = if b = c then 0 else if index l [c] = -1 then -1 else index l [c] + 1 := by
  rw [index]
  by_cases h : b = c
  · subst h; simp [List.isPrefixOf]
  · have hp : ([c] : List UInt8).isPrefixOf (b :: l) = false := by simp [List.isPrefixOf, Ne.symm h]
    simp [hp, h]
theorem index_nil (c : UInt8) : index [] [c] = -1 := by simp [index]

theorem cut_upTo (d : UInt8) : ∀ l : List UInt8, (cut l [d]).1 = upTo d l
  | [] => by simp [cut, index_nil, upTo]
  | b :: l => by
    have ih := cut_upTo d l
    unfold cut at ih ⊢
    rw [index_cons, upTo]
    by_cases h : b = d
    · simp [h]
    · simp only [h, if_false]
      have hge := index_ge l [d]
      by_cases hm : index l [d] = -1
      · simp only [hm, if_true] at ih ⊢
        simpa using ih
      · have h0 : 0 ≤ index l [d] := by omega
        have h1 : 0 ≤ index l [d] + 1 := by omega
        simp only [hm, if_false, h0, h1, if_true] at ih ⊢
        rw [show (index l [d] + 1).toNat = (index l [d]).toNat + 1 by omega, List.take_succ_cons, ih]

theorem words_upTo : ∀ (l w : List UInt8), wordsB l w = fieldsC (upTo 35 l) w
  | [], w => rfl
  | c :: l, w => by
    unfold wordsB upTo
    by_cases h : c = 35
    · simp [h, fieldsC]
    · simp only [h, if_false, fieldsC]
      rw [words_upTo l [], words_upTo l (w ++ [c])]

theorem words_eq (l : List UInt8) : wordsG l = wordsB l [] := by
  unfold wordsG
  rw [fields_c, words_upTo]
  simp [cut_upTo]

/-! ## lines -/
def linesOf : List UInt8 → List UInt8 → List (List UInt8)
  | [], l => [l]
  | c :: s, l => if c = 10 then l :: linesOf s [] else linesOf s (l ++ [c])

theorem linesOf_app : ∀ (s l : List UInt8), ∃ h t, linesOf s [] = h :: t ∧ linesOf s l = (l ++ h) :: t
  | [], l => ⟨[], [], rfl, by simp [linesOf]⟩
  | c :: s, l => by
    by_cases h : c = 10
    · exact ⟨[], linesOf s [], by simp [linesOf, h], by simp [linesOf, h]⟩
    · obtain ⟨h1, t1, e1, e2⟩ := linesOf_app s [c]
      obtain ⟨h2, t2, e3, e4⟩ := linesOf_app s (l ++ [c])
      rw [e1] at e3
      cases e3
      exact ⟨[c] ++ h1, t1, by simp [linesOf, h, e2], by simp [linesOf, h, e4]⟩

theorem split_lines : ∀ s : List UInt8, split s [10] = linesOf s []
  | [] => by simp [split, linesOf, splitK, count_one]
  | b :: l => by
    have ih := split_lines l
    unfold split at ih ⊢
    by_cases h : b = 10
    · subst h
      rw [count_cons_eq, show 1 + count l [10] = count l [10] + 1 by omega]
      have e : splitK [10] 0 (count l [10] + 1) (10 :: l) = [] :: splitK [10] 0 (count l [10]) l := by
        rw [splitK, index_cons]
        simp
      rw [e, ih]
      simp [linesOf]
    · rw [count_cons_ne b 10 l h]
      obtain ⟨h1, t1, e1, e2⟩ := linesOf_app l [b]
      have e : linesOf (b :: l) [] = ([b] ++ h1) :: t1 := by simp [linesOf, h, e2]
      rw [e]
      rw [e1] at ih
      cases hk : count l [10] with
      | zero =>
        rw [hk] at ih
        simp [splitK] at ih ⊢
        obtain ⟨rfl, rfl⟩ := ih
        simp
      | succ k =>
        rw [hk] at ih
        have hge := index_ge l [10]
        by_cases hm : index l [10] = -1
        · have hc : count l [10] = 0 := count_miss hm
          omega
        · have e0 : splitK [10] 0 (k + 1) l = l.take (index l [10]).toNat :: splitK [10] 0 k (l.drop ((index l [10]).toNat + 1)) := by
            rw [splitK]; simp [hm]
          have hi : index (b :: l) [10] = index l [10] + 1 := by rw [index_cons]; simp [h, hm]
          have hm' : ¬ index (b :: l) [10] = -1 := by omega
          have e1' : splitK [10] 0 (k + 1) (b :: l) = (b :: l).take (index l [10] + 1).toNat :: splitK [10] 0 k ((b :: l).drop ((index l [10] + 1).toNat + 1)) := by
            rw [splitK, hi]
            have : ¬ index l [10] + 1 = -1 := by omega
            simp [this]
          rw [e0] at ih
          rw [e1', show (index l [10] + 1).toNat = (index l [10]).toNat + 1 by omega, List.take_succ_cons, List.drop_succ_cons]
          injection ih with i1 i2
          rw [i1, i2]
          rfl

theorem putAll_lines : ∀ s l : List UInt8, putAll (linesOf s l) = linesB s l
  | [], l => by simp [linesOf, linesB, putAll, words_eq]
  | c :: s, l => by
    unfold linesOf linesB
    by_cases h : c = 10
    · simp only [h, if_true, putAll, words_eq]
      rw [putAll_lines s []]
    · simp only [h, if_false]
      exact putAll_lines s (l ++ [c])

/-- what the program tells is what the document tells -/
theorem lines_eq (s : List UInt8) : linesG s = linesB s [] := by
  unfold linesG
  rw [split_lines, putAll_lines]

end Dl

namespace Go.Proofs.YtkapnepkkeaiaaaGreatDoor
open Go.Shelf
def laysCut_ren : Go.Shelf.Ren := ⟨fun | 145 => 19 | 220 => 39 | 219 => 59 | 217 => 126 | 225 => 127 | 224 => 128 | 267 => 129 | 266 => 237 | 314 => 238 | n => n, fun | 9 => 9 | 4 => 4 | 59 => 62 | 3 => 3 | 5 => 5 | 46 => 221 | 146 => 389 | 51 => 264 | n => n, fun | 1 => 0 | n => n⟩
theorem laysCut : Go.Proofs.Lays.n145 Tryz.prog laysCut_ren := {
  mixed := by kernel_rfl
  f145 := Tryz.func19.trans (congrArg some (by kernel_rfl))
  f217 := Tryz.func126.trans (congrArg some (by kernel_rfl))
  f219 := Tryz.func59.trans (congrArg some (by kernel_rfl))
  f220 := Tryz.func39.trans (congrArg some (by kernel_rfl))
  f224 := Tryz.func128.trans (congrArg some (by kernel_rfl))
  f225 := Tryz.func127.trans (congrArg some (by kernel_rfl))
  f266 := Tryz.func237.trans (congrArg some (by kernel_rfl))
  f267 := Tryz.func129.trans (congrArg some (by kernel_rfl))
  f314 := Tryz.func238.trans (congrArg some (by kernel_rfl))
  t3 := Tryz.underlying3
  a3 := Tryz.isAgg3
  z3 := Tryz.sizeOf3
  v3 := Tryz.zeroValue3
  t4 := Tryz.underlying4
  a4 := Tryz.isAgg4
  z4 := Tryz.sizeOf4
  v4 := Tryz.zeroValue4
  t5 := Tryz.underlying5
  a5 := Tryz.isAgg5
  z5 := Tryz.sizeOf5
  v5 := Tryz.zeroValue5
  t9 := Tryz.underlying9
  a9 := Tryz.isAgg9
  z9 := Tryz.sizeOf9
  v9 := Tryz.zeroValue9
  t46 := Tryz.underlying221
  a46 := Tryz.isAgg221
  z46 := Tryz.sizeOf221
  v46 := Tryz.zeroValue221
  t51 := Tryz.underlying264
  a51 := Tryz.isAgg264
  z51 := Tryz.sizeOf264
  v51 := Tryz.zeroValue264
  t59 := Tryz.underlying62
  a59 := Tryz.isAgg62
  z59 := Tryz.sizeOf62
  v59 := Tryz.zeroValue62
  t146 := Tryz.underlying389
  a146 := Tryz.isAgg389
  z146 := Tryz.sizeOf389
  v146 := Tryz.zeroValue389
  g1 := by kernel_rfl }
def laysSplit_ren : Go.Shelf.Ren := ⟨fun | 146 => 10 | 221 => 18 | 268 => 36 | 138 => 37 | 143 => 38 | 195 => 56 | 197 => 57 | 218 => 58 | 219 => 59 | 260 => 125 | 217 => 126 | 225 => 127 | 224 => 128 | 267 => 129 | 266 => 237 | 314 => 238 | n => n, fun | 9 => 9 | 31 => 28 | 3 => 3 | 4 => 4 | 0 => 0 | 105 => 117 | 21 => 21 | 5 => 5 | 46 => 221 | 119 => 385 | 139 => 388 | 138 => 387 | 146 => 389 | 51 => 264 | n => n, fun | 1 => 0 | 3 => 1 | 4 => 2 | n => n⟩
theorem laysSplit : Go.Proofs.Lays.n146 Tryz.prog laysSplit_ren := {
  mixed := by kernel_rfl
  f138 := Tryz.func37.trans (congrArg some (by kernel_rfl))
  f143 := Tryz.func38.trans (congrArg some (by kernel_rfl))
  f146 := Tryz.func10.trans (congrArg some (by kernel_rfl))
  f195 := Tryz.func56.trans (congrArg some (by kernel_rfl))
  f197 := Tryz.func57.trans (congrArg some (by kernel_rfl))
  f217 := Tryz.func126.trans (congrArg some (by kernel_rfl))
  f218 := Tryz.func58.trans (congrArg some (by kernel_rfl))
  f219 := Tryz.func59.trans (congrArg some (by kernel_rfl))
  f221 := Tryz.func18.trans (congrArg some (by kernel_rfl))
  f224 := Tryz.func128.trans (congrArg some (by kernel_rfl))
  f225 := Tryz.func127.trans (congrArg some (by kernel_rfl))
  f260 := Tryz.func125.trans (congrArg some (by kernel_rfl))
  f266 := Tryz.func237.trans (congrArg some (by kernel_rfl))
  f267 := Tryz.func129.trans (congrArg some (by kernel_rfl))
  f268 := Tryz.func36.trans (congrArg some (by kernel_rfl))
  f314 := Tryz.func238.trans (congrArg some (by kernel_rfl))
  t0 := Tryz.underlying0
  a0 := Tryz.isAgg0
  z0 := Tryz.sizeOf0
  v0 := Tryz.zeroValue0
  t3 := Tryz.underlying3
  a3 := Tryz.isAgg3
  z3 := Tryz.sizeOf3
  v3 := Tryz.zeroValue3
  t4 := Tryz.underlying4
  a4 := Tryz.isAgg4
  z4 := Tryz.sizeOf4
  v4 := Tryz.zeroValue4
  t5 := Tryz.underlying5
  a5 := Tryz.isAgg5
  z5 := Tryz.sizeOf5
  v5 := Tryz.zeroValue5
  t9 := Tryz.underlying9
  a9 := Tryz.isAgg9
  z9 := Tryz.sizeOf9
  v9 := Tryz.zeroValue9
  t21 := Tryz.underlying21
  a21 := Tryz.isAgg21
  z21 := Tryz.sizeOf21
  v21 := Tryz.zeroValue21
  t31 := Tryz.underlying28
  a31 := Tryz.isAgg28
  z31 := Tryz.sizeOf28
  v31 := Tryz.zeroValue28
  t46 := Tryz.underlying221
  a46 := Tryz.isAgg221
  z46 := Tryz.sizeOf221
  v46 := Tryz.zeroValue221
  t51 := Tryz.underlying264
  a51 := Tryz.isAgg264
  z51 := Tryz.sizeOf264
  v51 := Tryz.zeroValue264
  t105 := Tryz.underlying117
  a105 := Tryz.isAgg117
  z105 := Tryz.sizeOf117
  v105 := Tryz.zeroValue117
  t119 := Tryz.underlying385
  a119 := Tryz.isAgg385
  z119 := Tryz.sizeOf385
  t138 := Tryz.underlying387
  a138 := Tryz.isAgg387
  z138 := Tryz.sizeOf387
  v138 := Tryz.zeroValue387
  t139 := Tryz.underlying388
  a139 := Tryz.isAgg388
  z139 := Tryz.sizeOf388
  v139 := Tryz.zeroValue388
  t146 := Tryz.underlying389
  a146 := Tryz.isAgg389
  z146 := Tryz.sizeOf389
  v146 := Tryz.zeroValue389
  g1 := by kernel_rfl
  g3 := by kernel_rfl
  g4 := by kernel_rfl }
def laysFF_ren : Go.Shelf.Ren := ⟨fun | 229 => 20 | n => n, fun | 9 => 9 | 40 => 65 | 31 => 28 | 152 => 81 | 3 => 3 | 0 => 0 | 4 => 4 | 21 => 21 | 154 => 83 | n => n, fun | n => n⟩
theorem laysFF : Go.Proofs.Lays.n229 Tryz.prog laysFF_ren := {
  mixed := by kernel_rfl
  f229 := Tryz.func20.trans (congrArg some (by kernel_rfl))
  t0 := Tryz.underlying0
  a0 := Tryz.isAgg0
  z0 := Tryz.sizeOf0
  v0 := Tryz.zeroValue0
  t3 := Tryz.underlying3
  a3 := Tryz.isAgg3
  z3 := Tryz.sizeOf3
  v3 := Tryz.zeroValue3
  t4 := Tryz.underlying4
  a4 := Tryz.isAgg4
  z4 := Tryz.sizeOf4
  v4 := Tryz.zeroValue4
  t9 := Tryz.underlying9
  a9 := Tryz.isAgg9
  z9 := Tryz.sizeOf9
  v9 := Tryz.zeroValue9
  t21 := Tryz.underlying21
  a21 := Tryz.isAgg21
  z21 := Tryz.sizeOf21
  v21 := Tryz.zeroValue21
  t31 := Tryz.underlying28
  a31 := Tryz.isAgg28
  z31 := Tryz.sizeOf28
  v31 := Tryz.zeroValue28
  t40 := Tryz.underlying65
  a40 := Tryz.isAgg65
  z40 := Tryz.sizeOf65
  v40 := Tryz.zeroValue65
  t152 := Tryz.underlying81
  a152 := Tryz.isAgg81
  z152 := Tryz.sizeOf81
  v152 := Tryz.zeroValue81
  t154 := Tryz.underlying83
  a154 := Tryz.isAgg83
  z154 := Tryz.sizeOf83
  v154 := Tryz.zeroValue83 }
end Go.Proofs.YtkapnepkkeaiaaaGreatDoor

namespace Go.Proofs.YtkapnepkkeaiaaaGreatDoor
open Go.RowKit Go.Lib Dl
set_option maxRecDepth 100000

/-! ## rows of strings, and rows of such rows -/
theorem own_belowD {W W' : World} {B e size n : Nat} {v : Value} {xs : List Value} (h : W.ownsRow B e size v n xs) (hb : Below W.heap.size W W') : W'.ownsRow B e size v n xs :=
  h.kept (row := none) ⟨hb.os, hb.tape, hb.output, hb.size, fun k hk _ => hb.block k hk⟩ (Classical.em _)

theorem own_neD {w : World} {B B' e e' size size' n n' : Nat} {v v' : Value} {xs xs' : List Value} (h : w.ownsRow B e size v n xs) (h' : w.ownsRow B' e' size' v' n' xs') (hne : e ≠ e') :
    v.ownBlock = none ∨ v.ownBlock ≠ v'.ownBlock := by
  rcases h.2 with ⟨rfl, _⟩ | ⟨g, cap, cur, rfl, _, hg, _⟩
  · exact .inl rfl
  · right
    intro he
    rcases h'.2 with ⟨rfl, _⟩ | ⟨g', cap', cur', rfl, _, hg', _⟩
    · cases he
    · have hgg : g = g' := by simpa [Value.ownBlock] using he
      subst hgg
      rw [hg] at hg'
      injection hg' with hg'
      injection hg' with _ ht
      exact hne ht

/-- a row of strings -/
def StrRow (w : World) (v : Value) (xs : List ByteArray) : Prop := w.ownsRow 0 9 1 v xs.length (xs.map Value.string)
theorem ownsRow_base {w : World} {B B' e size n : Nat} {v : Value} {xs : List Value} (h : w.ownsRow B e size v n xs) (hB : B' ≤ B) : w.ownsRow B' e size v n xs := by
  refine ⟨h.1, ?_⟩
  rcases h.2 with h | ⟨g, cap, cur, h1, h2, h3⟩
  · exact .inl h
  · exact .inr ⟨g, cap, cur, h1, by omega, h3⟩
theorem StrRow.below {w w' : World} {v : Value} {xs : List ByteArray} (h : StrRow w v xs) (hb : Below w.heap.size w w') : StrRow w' v xs := own_belowD h hb

/-- a row of rows of strings, from block B on: its values, and what they read as -/
structure RowsV (w : World) (B : Nat) (V : Value) (vs : List Value) (xss : List (List ByteArray)) : Prop where
  len : vs.length = xss.length
  own : w.ownsRow B 28 1 V vs.length vs
  each : ∀ (i : Nat) (v : Value) (xs : List ByteArray), vs[i]? = some v → xss[i]? = some xs → StrRow w v xs

theorem RowsV.below {w w' : World} {B : Nat} {V : Value} {vs : List Value} {xss : List (List ByteArray)} (h : RowsV w B V vs xss) (hb : Below w.heap.size w w') : RowsV w' B V vs xss :=
  ⟨h.len, own_belowD h.own hb, fun i v xs h1 h2 => (h.each i v xs h1 h2).below hb⟩

/-- one row more, by an append -/
theorem RowsV.push {w w' : World} {B : Nat} {V V' u : Value} {vs : List Value} {xss : List (List ByteArray)} {xs : List ByteArray} {o : Obj} (h : RowsV w B V vs xss) (hu : StrRow w u xs)
    (hown : w'.ownsRow B 28 1 V' (vs.length + 1) (vs ++ [u])) (hg : (w.alloc o).grownBy w' V.ownBlock) : RowsV w' B V' (vs ++ [u]) (xss ++ [xs]) := by
  have keep : ∀ v xs, StrRow w v xs → StrRow w' v xs := fun v xs hv =>
    (hv.alloc o).kept hg (own_neD (hv.alloc o) (h.own.alloc o) (by decide))
  refine ⟨by simp [h.len], by simpa using hown, fun i v ys h1 h2 => keep _ _ ?_⟩
  have hl := h.len
  by_cases hi : i < vs.length
  · rw [List.getElem?_append_left hi] at h1
    rw [List.getElem?_append_left (by omega)] at h2
    exact h.each i v ys h1 h2
  · rw [List.getElem?_append_right (by omega)] at h1
    rw [List.getElem?_append_right (by omega)] at h2
    have h0 : i - vs.length = 0 := by
      rcases Nat.eq_zero_or_pos (i - vs.length) with h0 | h0
      · exact h0
      · rw [List.getElem?_eq_none (by simp; omega)] at h1; cases h1
    rw [h0] at h1
    rw [← hl, h0] at h2
    simp at h1 h2
    subst h1 h2
    exact hu

theorem info9 : (Tryz.prog.info? 9).map (fun i => (i.zero, i.size, i.bytes)) = some (some (.string ⟨#[]⟩), 1, 16) := by kernel_rfl
theorem info28 : (Tryz.prog.info? 28).map (fun i => (i.zero, i.size, i.bytes)) = some (some (.slice none 0 0), 1, 24) := by kernel_rfl

theorem ret_str {a b : ByteArray} (h : a = b) : Ending.returned (.string a) = .returned (.string b) := by rw [h]
theorem ret_boolD {a b : Bool} (h : a = b) : Ending.returned (.bool a) = .returned (.bool b) := by rw [h]

/-! ## short -/
def shortB (s : ByteArray) : ByteArray := if 300 < s.size then s.extract 0 300 else s
theorem shortB_size (s : ByteArray) : (shortB s).size ≤ 300 := by
  unfold shortB
  split
  · rw [ByteArray.size_extract]; omega
  · omega

theorem short_any (s : ByteArray) (w : World) (hs : s.size ≤ 9223372036854775807) :
    Calls Tryz.prog 5 #[.string s] w fun e w' => e = .returned (.string (shortB s)) ∧ w' = w := by
  by_cases h : 300 < s.size
  · have HE : Hid (shortB s = s.extract 0 300) := Lib.hid (if_pos h)
    go_enter Tryz.func5, Tryz.ntmps5
    go_wp2
    go_ret
    exact ⟨ret_str HE.out.symm, rfl⟩
  · have HE : Hid (shortB s = s) := Lib.hid (if_neg h)
    go_enter Tryz.func5, Tryz.ntmps5
    go_wp2
    go_ret
    exact ⟨ret_str HE.out.symm, rfl⟩

/-! ## blank -/
theorem gap_int (c : UInt8) : gap c = (((c.toNat : Int) == 32) || ((c.toNat : Int) == 9)) := by
  unfold gap
  congr 1 <;> (rw [Bool.eq_iff_iff]; simp only [beq_iff_eq]; rw [← UInt8.toNat_inj]; simp; try omega)

theorem blank_any (c : UInt8) (w : World) : Calls Tryz.prog 22 #[.int .u8 (c.toNat : Int)] w fun e w' => e = .returned (.bool (gap c)) ∧ w' = w := by
  have HG := Lib.hid (gap_int c)
  cases h1 : ((c.toNat : Int) == 32) <;> cases h2 : ((c.toNat : Int) == 9)
  all_goals
    go_enter Tryz.func22, Tryz.ntmps22
    go_wp2
    go_ret
    exact ⟨ret_boolD (by rw [HG.out, h1, h2]; rfl), rfl⟩
end Go.Proofs.YtkapnepkkeaiaaaGreatDoor

namespace Go.Proofs.YtkapnepkkeaiaaaGreatDoor
open Go.RowKit Go.Lib Dl
set_option maxRecDepth 100000

/-! ## the document's words -/
theorem drop_cons (s : ByteArray) (k : Nat) (h : k < s.size) : s.data.toList.drop k = s[k] :: s.data.toList.drop (k + 1) := by
  rw [List.drop_eq_getElem_cons (by simpa using h)]
  rfl
theorem drop_end (s : ByteArray) (k : Nat) (h : ¬ k < s.size) : s.data.toList.drop k = [] := List.drop_eq_nil_of_le (by simp; omega)
theorem one_data (s : ByteArray) (k : Nat) (h : k < s.size) : (s.extract k (k + 1)).data.toList = [s[k]] := by
  rw [extract_data, drop_cons s k h]
  simp
theorem app_data (a b : ByteArray) : (a ++ b).data.toList = a.data.toList ++ b.data.toList := by simp
theorem words_hash (l w : List UInt8) : wordsB (35 :: l) w = if w = [] then [] else [w] := by simp [wordsB]
theorem words_nil (w : List UInt8) : wordsB [] w = if w = [] then [] else [w] := by simp [wordsB]
theorem words_gap0 {c : UInt8} (l : List UInt8) (h : c ≠ 35) (hg : gap c = true) : wordsB (c :: l) [] = wordsB l [] := by simp [wordsB, h, hg]
theorem words_gap1 {c : UInt8} (l w : List UInt8) (h : c ≠ 35) (hg : gap c = true) (hw : w ≠ []) : wordsB (c :: l) w = w :: wordsB l [] := by simp [wordsB, h, hg, hw]
theorem words_in {c : UInt8} (l w : List UInt8) (h : c ≠ 35) (hg : gap c = false) : wordsB (c :: l) w = wordsB l (w ++ [c]) := by simp [wordsB, h, hg]

def WordsOut (s : ByteArray) (w : World) (e : Ending) (w' : World) : Prop :=
  ∃ (v : Value) (xs : List ByteArray), e = .returned v ∧ StrRow w' v xs ∧ Below w.heap.size w w' ∧ xs.map (·.data.toList) = wordsB s.data.toList []

/-- what stands at the head of a round -/
structure WI (s : ByteArray) (w : World) (k : Nat) (c : ByteArray) (acc : List ByteArray) (o : Value) (wr : World) : Prop where
  hk : k ≤ s.size
  ha : acc.length ≤ k
  hc : c.size ≤ k
  own : wr.ownsRow w.heap.size 9 1 o acc.length (acc.map Value.string)
  bel : Below w.heap.size w wr
  eq : acc.map (·.data.toList) ++ wordsB (s.data.toList.drop k) c.data.toList = wordsB s.data.toList []

theorem empty_data (c : ByteArray) (h : c.size = 0) : c.data.toList = [] := by
  have : c.data.toList.length = 0 := by simpa using h
  exact List.eq_nil_of_length_eq_zero this
theorem full_data (c : ByteArray) (h : c.size ≠ 0) : c.data.toList ≠ [] := fun h0 => h (by have := congrArg List.length h0; simpa using this)

theorem WI.skip {s : ByteArray} {w wr : World} {k : Nat} {c : ByteArray} {acc : List ByteArray} {o : Value} (h : WI s w k c acc o wr) (hlt : k < s.size) (h35 : s[k] ≠ 35) (hg : gap s[k] = true) (hz : c.size = 0) :
    WI s w (k + 1) ⟨#[]⟩ acc o wr := by
  refine ⟨by omega, by have := h.ha; omega, by simp [ByteArray.size], h.own, h.bel, ?_⟩
  rw [← h.eq, drop_cons s k hlt, empty_data c hz, words_gap0 _ h35 hg]
theorem WI.word {s : ByteArray} {w wr wn : World} {k : Nat} {c : ByteArray} {acc : List ByteArray} {o o' : Value} {ob : Obj} (h : WI s w k c acc o wr) (hlt : k < s.size) (h35 : s[k] ≠ 35) (hg : gap s[k] = true) (hz : c.size ≠ 0)
    (hown : wn.ownsRow w.heap.size 9 1 o' (acc.length + 1) (acc.map Value.string ++ [Value.string c])) (hgr : (wr.alloc ob).grownBy wn o.ownBlock) : WI s w (k + 1) ⟨#[]⟩ (acc ++ [c]) o' wn := by
  refine ⟨by omega, by have := h.ha; simp; omega, by simp [ByteArray.size], by simpa using hown, ?_, ?_⟩
  · exact (h.bel.alloc h.bel.size ob).grown hgr (by have := h.bel.size; simp; omega) (fun j hj => (h.own.lt j hj).1)
  · rw [← h.eq, drop_cons s k hlt, words_gap1 _ _ h35 hg (full_data c hz)]
    simp
theorem WI.more {s : ByteArray} {w wr : World} {k : Nat} {c : ByteArray} {acc : List ByteArray} {o : Value} (h : WI s w k c acc o wr) (hlt : k < s.size) (h35 : s[k] ≠ 35) (hg : gap s[k] = false) :
    WI s w (k + 1) (c ++ s.extract k (k + 1)) acc o wr := by
  refine ⟨by omega, by have := h.ha; omega, ?_, h.own, h.bel, ?_⟩
  · rw [ByteArray.size_append, ByteArray.size_extract]; have := h.hc; omega
  · rw [← h.eq, drop_cons s k hlt, words_in _ _ h35 hg, app_data, one_data s k hlt]
/-- the end: at the text's end, or at a '#' -/
theorem WI.done0 {s : ByteArray} {w wr : World} {k : Nat} {c : ByteArray} {acc : List ByteArray} {o : Value} (h : WI s w k c acc o wr) (hend : k = s.size ∨ ∃ hlt : k < s.size, s[k] = 35) (hz : c.size = 0) :
    acc.map (·.data.toList) = wordsB s.data.toList [] := by
  rw [← h.eq]
  have hc := empty_data c hz
  rcases hend with rfl | ⟨hlt, he⟩
  · rw [drop_end s s.size (by omega), hc, words_nil]; simp
  · rw [drop_cons s k hlt, he, hc, words_hash]; simp
theorem WI.done1 {s : ByteArray} {w wr : World} {k : Nat} {c : ByteArray} {acc : List ByteArray} {o : Value} (h : WI s w k c acc o wr) (hend : k = s.size ∨ ∃ hlt : k < s.size, s[k] = 35) (hz : c.size ≠ 0) :
    (acc ++ [c]).map (·.data.toList) = wordsB s.data.toList [] := by
  rw [← h.eq]
  have hc := full_data c hz
  rcases hend with rfl | ⟨hlt, he⟩
  · rw [drop_end s s.size (by omega), words_nil]; simp [hc]
  · rw [drop_cons s k hlt, he, words_hash]; simp [hc]
end Go.Proofs.YtkapnepkkeaiaaaGreatDoor

namespace Go.Proofs.YtkapnepkkeaiaaaGreatDoor
open Go.RowKit Go.Lib Dl
set_option maxRecDepth 100000

theorem size_of_empty {C : ByteArray} (h : C.toList.isEmpty = true) : C.size = 0 := by
  rw [Lib.toList_data] at h
  have : C.data.toList = [] := by simpa using h
  have := congrArg List.length this
  simpa using this
theorem size_of_full {C : ByteArray} (h : C.toList.isEmpty = false) : C.size ≠ 0 := by
  rw [Lib.toList_data] at h
  intro h0
  rw [empty_data C h0] at h
  cases h
theorem ne35_int {c : UInt8} (h : c ≠ 35) : ((c.toNat : Int) != 35) = true := by
  have : c.toNat ≠ 35 := fun e => h (UInt8.toNat_inj.1 e)
  simp; omega

theorem WI.push {s : ByteArray} {w wr wn : World} {k : Nat} {c : ByteArray} {acc : List ByteArray} {o o' : Value} {ob : Obj} (h : WI s w k c acc o wr)
    (hown : wn.ownsRow w.heap.size 9 1 o' (acc.length + 1) (acc.map Value.string ++ [Value.string c])) (hgr : (wr.alloc ob).grownBy wn o.ownBlock) : StrRow wn o' (acc ++ [c]) ∧ Below w.heap.size w wn :=
  ⟨by unfold StrRow; simpa using ownsRow_base hown (Nat.zero_le _), (h.bel.alloc h.bel.size ob).grown hgr (by have := h.bel.size; simp; omega) (fun j hj => (h.own.lt j hj).1)⟩

set_option maxHeartbeats 1600000 in
theorem words_any (s : ByteArray) (w : World) (hs : s.size ≤ 100000) : Calls Tryz.prog 12 #[.string s] w (WordsOut s w) := by
  obtain ⟨i0, hi, hz0, hz1, hz2⟩ := info_parts info9
  go_enter Tryz.func12, Tryz.ntmps12
  go_wp2
  go_loopw [3, 4, 5] (fun o c i wr => ∃ (k : Nat) (C : ByteArray) (acc : List ByteArray), c = .string C ∧ i = .int .i64 k ∧ WI s w k C acc o wr) (fun _ _ i _ => s.size - (intOf i).toNat)
  case atStart => exact ⟨0, ⟨#[]⟩, [], rfl, rfl, ⟨Nat.zero_le _, Nat.le_refl _, Nat.le_refl _, World.ownsRow_nil _ _ _ _, Below.refl _ _, rfl⟩⟩
  case round =>
    obtain ⟨k, C, acc, rfl, rfl, HI⟩ := hrel
    have hk := HI.hk
    have ha := HI.ha
    have hsz := HI.bel.size
    have HH := Lib.hid HI
    clear HI
    by_cases hend : k = s.size ∨ ∃ hlt : k < s.size, s[k] = 35
    · have HE := Lib.hid hend
      cases hC : C.toList.isEmpty with
      | true =>
        have hn : (!C.toList.isEmpty) = false := by rw [hC]; rfl
        have HC := Lib.hid hC
        clear hC
        rcases hend with hend | ⟨hlt, h35⟩
        · have hge : ¬ k < s.size := by omega
          clear hend
          go_wp2
          go_ret
          exact ⟨_, acc, rfl, ownsRow_base HH.out.own (Nat.zero_le _), HH.out.bel, HH.out.done0 HE.out (size_of_empty HC.out)⟩
        · have e35 : ((s[k].toNat : Int) != 35) = false := by rw [h35]; rfl
          clear h35
          go_wp2
          go_ret
          exact ⟨_, acc, rfl, ownsRow_base HH.out.own (Nat.zero_le _), HH.out.bel, HH.out.done0 HE.out (size_of_empty HC.out)⟩
      | false =>
        have hn : (!C.toList.isEmpty) = true := by rw [hC]; rfl
        have HC := Lib.hid hC
        clear hC
        rcases hend with hend | ⟨hlt, h35⟩
        · have hge : ¬ k < s.size := by omega
          clear hend
          go_wp2_with (at_builtin; refine wpList_append_own _ rfl _ _ 28 rfl w.heap.size 9 i0 (.string ⟨#[]⟩) 1 16 Tryz.underlying28 hi hz0 hz1 hz2 rfl (by decide) _ _ _ rfl (HH.out.own.alloc _) ⟨wr.heap.size, 0, none⟩ 1 1 [.string C] rfl rfl (cell_one_new _ _ _) (fun x hx => by simp at hx; subst hx; rfl) (by unfold maxLen; omega) (by omega) (by simp; omega) ?_; intro v' w3 hown' hgrow3 _)
          obtain ⟨hr1, hr2⟩ := HH.out.push hown' hgrow3
          go_ret
          exact ⟨_, acc ++ [C], rfl, hr1, hr2, HH.out.done1 HE.out (size_of_full HC.out)⟩
        · have e35 : ((s[k].toNat : Int) != 35) = false := by rw [h35]; rfl
          clear h35
          go_wp2_with (at_builtin; refine wpList_append_own _ rfl _ _ 28 rfl w.heap.size 9 i0 (.string ⟨#[]⟩) 1 16 Tryz.underlying28 hi hz0 hz1 hz2 rfl (by decide) _ _ _ rfl (HH.out.own.alloc _) ⟨wr.heap.size, 0, none⟩ 1 1 [.string C] rfl rfl (cell_one_new _ _ _) (fun x hx => by simp at hx; subst hx; rfl) (by unfold maxLen; omega) (by omega) (by simp; omega) ?_; intro v' w3 hown' hgrow3 _)
          obtain ⟨hr1, hr2⟩ := HH.out.push hown' hgrow3
          go_ret
          exact ⟨_, acc ++ [C], rfl, hr1, hr2, HH.out.done1 HE.out (size_of_full HC.out)⟩
    · have hlt : k < s.size := by
        rcases Nat.lt_or_ge k s.size with h | h
        · exact h
        · exact absurd (.inl (by omega)) hend
      have h35 : s[k] ≠ 35 := fun e => hend (.inr ⟨hlt, e⟩)
      have e35 := ne35_int h35
      have H35 := Lib.hid h35
      clear hend h35
      have cB := blank_any s[k] wr
      cases hg : gap s[k] with
      | false =>
        rw [hg] at cB
        have HG := Lib.hid hg
        clear hg
        have hc := HH.out.hc
        have hmx : ¬ (9223372036854775807 < C.size + (min (k + 1) s.size - k)) := by omega
        go_wp2_with (go_at_call 22; refine cB.mono ?_; rintro e w' ⟨rfl, rfl⟩)
        go_roundw
        case rel => exact ⟨k + 1, _, acc, rfl, by go_num, HH.out.more hlt H35.out HG.out⟩
        case measure => simp [intOf]; omega
      | true =>
        rw [hg] at cB
        have HG := Lib.hid hg
        clear hg
        cases hC : C.toList.isEmpty with
        | true =>
          have hn : (!C.toList.isEmpty) = false := by rw [hC]; rfl
          have HC := Lib.hid hC
          clear hC
          go_wp2_with (go_at_call 22; refine cB.mono ?_; rintro e w' ⟨rfl, rfl⟩)
          go_roundw
          case rel => exact ⟨k + 1, _, acc, rfl, by go_num, HH.out.skip hlt H35.out HG.out (size_of_empty HC.out)⟩
          case measure => simp [intOf]; omega
        | false =>
          have hn : (!C.toList.isEmpty) = true := by rw [hC]; rfl
          have HC := Lib.hid hC
          clear hC
          go_wp2_with (first
            | (go_at_call 22; refine cB.mono ?_; rintro e w' ⟨rfl, rfl⟩)
            | (at_builtin; refine wpList_append_own _ rfl _ _ 28 rfl w.heap.size 9 i0 (.string ⟨#[]⟩) 1 16 Tryz.underlying28 hi hz0 hz1 hz2 rfl (by decide) _ _ _ rfl (HH.out.own.alloc _) ⟨_, 0, none⟩ 1 1 [.string C] rfl rfl (cell_one_new _ _ _) (fun x hx => by simp at hx; subst hx; rfl) (by unfold maxLen; omega) (by omega) (by simp; omega) ?_; intro v' w3 hown' hgrow3 _))
          have HW := HH.out.word hlt H35.out HG.out (size_of_full HC.out) hown' hgrow3
          go_roundw
          case rel => exact ⟨k + 1, _, acc ++ [C], rfl, by go_num, HW⟩
          case measure => simp [intOf]; omega
end Go.Proofs.YtkapnepkkeaiaaaGreatDoor

namespace Go.Proofs.YtkapnepkkeaiaaaGreatDoor
open Go.RowKit Go.Lib Dl
set_option maxRecDepth 100000

theorem StrRow.form {w : World} {v : Value} {xs : List ByteArray} (h : StrRow w v xs) : ∃ p c, v = .slice p xs.length c := by
  rcases h.2 with ⟨rfl, h0⟩ | ⟨g, cap, cur, rfl, _⟩
  · exact ⟨none, 0, by rw [h0]⟩
  · exact ⟨_, _, rfl⟩
def NoneOut (w : World) (e : Ending) (w' : World) : Prop := ∃ p c, e = .returned (.slice p 0 c) ∧ Below w.heap.size w w'
def SomeOut (l : List (List UInt8)) (w : World) (e : Ending) (w' : World) : Prop :=
  ∃ p c n xs, e = .returned (.slice p (n + 1) c) ∧ xs.length = n + 1 ∧ StrRow w' (.slice p (n + 1) c) xs ∧ Below w.heap.size w w' ∧ xs.map (·.data.toList) = l
theorem none_of {s : ByteArray} {w : World} {e : Ending} {w' : World} (h : wordsB s.data.toList [] = []) (ho : WordsOut s w e w') : NoneOut w e w' := by
  obtain ⟨v, xs, rfl, hr, hb, hx⟩ := ho
  rw [h] at hx
  have : xs = [] := by simpa using hx
  subst this
  obtain ⟨p, c, rfl⟩ := hr.form
  exact ⟨p, c, rfl, hb⟩
theorem some_of_ {s : ByteArray} {w : World} {e : Ending} {w' : World} (h : wordsB s.data.toList [] ≠ []) (ho : WordsOut s w e w') : SomeOut (wordsB s.data.toList []) w e w' := by
  obtain ⟨v, xs, rfl, hr, hb, hx⟩ := ho
  cases xs with
  | nil => exact absurd hx.symm (by simpa using h)
  | cons x xs =>
    obtain ⟨p, c, rfl⟩ := hr.form
    exact ⟨p, c, xs.length, x :: xs, rfl, rfl, hr, hb, hx⟩

/-- what the rows read as -/
def reads (xss : List (List ByteArray)) : List (List (List UInt8)) := xss.map fun xs => xs.map (·.data.toList)
def rest (s : ByteArray) (k : Nat) (L : ByteArray) : List (List (List UInt8)) := if k ≤ s.size then linesB (s.data.toList.drop k) L.data.toList else []

structure LI (s : ByteArray) (w : World) (k : Nat) (L : ByteArray) (vs : List Value) (xss : List (List ByteArray)) (o : Value) (wr : World) : Prop where
  hk : k ≤ s.size + 1
  hl : L.size ≤ k
  hv : vs.length ≤ k
  rows : RowsV wr w.heap.size o vs xss
  bel : Below w.heap.size w wr
  eq : reads xss ++ rest s k L = linesB s.data.toList []

theorem rest_flush (s : ByteArray) (k : Nat) (L : ByteArray) (hk : k = s.size ∨ ∃ hlt : k < s.size, s[k] = 10) : rest s k L = put (wordsB L.data.toList []) (rest s (k + 1) ⟨#[]⟩) := by
  unfold rest
  rcases hk with rfl | ⟨hlt, h⟩
  · rw [if_pos (Nat.le_refl _), if_neg (by omega), drop_end s s.size (by omega)]
    rfl
  · rw [if_pos (by omega), if_pos (by omega), drop_cons s k hlt, h]
    simp [linesB]
theorem rest_more (s : ByteArray) (k : Nat) (L : ByteArray) (hlt : k < s.size) (h : s[k] ≠ 10) : rest s k L = rest s (k + 1) (L ++ s.extract k (k + 1)) := by
  unfold rest
  rw [if_pos (by omega), if_pos (by omega), drop_cons s k hlt, app_data, one_data s k hlt]
  simp [linesB, h]
theorem LI.start (s : ByteArray) (w : World) : LI s w 0 ⟨#[]⟩ [] [] (.slice none 0 0) w :=
  ⟨by omega, Nat.le_refl _, Nat.le_refl _, ⟨rfl, World.ownsRow_nil _ _ _ _, fun i v xs h => by simp at h⟩, Below.refl _ _, by simp [reads, rest]⟩
theorem LI.more {s : ByteArray} {w wr : World} {k : Nat} {L : ByteArray} {vs : List Value} {xss : List (List ByteArray)} {o : Value} (h : LI s w k L vs xss o wr) (hlt : k < s.size) (h10 : s[k] ≠ 10) :
    LI s w (k + 1) (L ++ s.extract k (k + 1)) vs xss o wr :=
  ⟨by omega, by rw [ByteArray.size_append, ByteArray.size_extract]; have := h.hl; omega, by have := h.hv; omega, h.rows, h.bel, by rw [← rest_more s k L hlt h10]; exact h.eq⟩
theorem LI.none {s : ByteArray} {w wr w2 : World} {k : Nat} {L : ByteArray} {vs : List Value} {xss : List (List ByteArray)} {o : Value} (h : LI s w k L vs xss o wr) (hf : k = s.size ∨ ∃ hlt : k < s.size, s[k] = 10)
    (hw : wordsB L.data.toList [] = []) (hb : Below wr.heap.size wr w2) : LI s w (k + 1) ⟨#[]⟩ vs xss o w2 := by
  refine ⟨?_, by simp [ByteArray.size], by have := h.hv; omega, h.rows.below hb, h.bel.trans (hb.mono h.bel.size), ?_⟩
  · rcases hf with rfl | ⟨hlt, _⟩ <;> omega
  · rw [← h.eq, rest_flush s k L hf, hw]; simp [put]
theorem LI.some {s : ByteArray} {w wr w2 w3 : World} {k : Nat} {L : ByteArray} {vs : List Value} {xss : List (List ByteArray)} {o o' u : Value} {xs : List ByteArray} {ob : Obj} (h : LI s w k L vs xss o wr) (hf : k = s.size ∨ ∃ hlt : k < s.size, s[k] = 10)
    (hw : wordsB L.data.toList [] ≠ []) (hb : Below wr.heap.size wr w2) (hu : StrRow w2 u xs) (hx : xs.map (·.data.toList) = wordsB L.data.toList [])
    (hown : w3.ownsRow w.heap.size 28 1 o' (vs.length + 1) (vs ++ [u])) (hg : (w2.alloc ob).grownBy w3 o.ownBlock) : LI s w (k + 1) ⟨#[]⟩ (vs ++ [u]) (xss ++ [xs]) o' w3 := by
  have h2 := h.rows.below hb
  refine ⟨?_, by simp [ByteArray.size], by have := h.hv; simp; omega, h2.push hu hown hg, ?_, ?_⟩
  · rcases hf with rfl | ⟨hlt, _⟩ <;> omega
  · have hb2 := h.bel.trans (hb.mono h.bel.size)
    exact (hb2.alloc hb2.size ob).grown hg (by have := hb2.size; simp; omega) (fun j hj => (h.rows.own.lt j hj).1)
  · rw [← h.eq, rest_flush s k L hf]
    simp [put, hw, reads, hx]

def LinesOut (l : List (List (List UInt8))) (w : World) (e : Ending) (w' : World) : Prop :=
  ∃ v vs xss, e = .returned v ∧ RowsV w' w.heap.size v vs xss ∧ Below w.heap.size w w' ∧ reads xss = l

theorem ne10_int {c : UInt8} (h : c ≠ 10) : ((c.toNat : Int) == 10) = false := by
  have : c.toNat ≠ 10 := fun e => h (UInt8.toNat_inj.1 e)
  simp; omega

set_option maxHeartbeats 1600000 in
theorem rlines_any (s : ByteArray) (w : World) (hs : s.size ≤ 10000) : Calls Tryz.prog 8 #[.string s] w (LinesOut (linesB s.data.toList []) w) := by
  obtain ⟨i0, hi, hz0, hz1, hz2⟩ := info_parts info28
  go_enter Tryz.func8, Tryz.ntmps8
  go_wp2
  go_loopw [3, 4, 5] (fun o c i wr => ∃ (k : Nat) (L : ByteArray) (vs : List Value) (xss : List (List ByteArray)), c = .string L ∧ i = .int .i64 k ∧ LI s w k L vs xss o wr) (fun _ _ i _ => s.size + 1 - (intOf i).toNat)
  case atStart => exact ⟨0, ⟨#[]⟩, [], [], rfl, rfl, LI.start s w⟩
  case round =>
    obtain ⟨k, L, vs, xss, rfl, rfl, HI⟩ := hrel
    have hk := HI.hk
    have hl := HI.hl
    have hv := HI.hv
    have hsz := HI.bel.size
    have HH := Lib.hid HI
    clear HI
    by_cases hlast : s.size < k
    · go_wp2
      go_ret
      refine ⟨_, vs, xss, rfl, HH.out.rows, HH.out.bel, ?_⟩
      have := HH.out.eq
      rw [rest, if_neg (by omega), List.append_nil] at this
      exact this
    · by_cases hf : k = s.size ∨ ∃ hlt : k < s.size, s[k] = 10
      · have HF := Lib.hid hf
        by_cases hW : wordsB L.data.toList [] = []
        · have cW := fun wx => (words_any L wx (by omega)).mono fun e w' ho => none_of hW ho
          have HW := Lib.hid hW
          clear hW
          rcases hf with hf | ⟨hlt, h10⟩
          · subst hf
            go_wp2_with (go_at_call 12; refine (cW _).mono ?_; rintro e w2 ⟨p, c, rfl, hb⟩)
            have HN := HH.out.none (.inl rfl) HW.out hb
            go_roundw
            case rel => exact ⟨_, _, vs, xss, rfl, by go_num, HN⟩
            case measure => first | (simp [intOf]; done) | (simp [intOf]; omega)
          · have e10 : ((s[k].toNat : Int) == 10) = true := by rw [h10]; rfl
            clear h10
            go_wp2_with (go_at_call 12; refine (cW _).mono ?_; rintro e w2 ⟨p, c, rfl, hb⟩)
            have HN := HH.out.none HF.out HW.out hb
            go_roundw
            case rel => exact ⟨_, _, vs, xss, rfl, by go_num, HN⟩
            case measure => first | (simp [intOf]; done) | (simp [intOf]; omega)
        · have cW := fun wx => (words_any L wx (by omega)).mono fun e w' ho => some_of_ hW ho
          have HW := Lib.hid hW
          clear hW
          rcases hf with hf | ⟨hlt, h10⟩
          · subst hf
            go_wp2_with (first
              | (go_at_call 12; refine (cW _).mono ?_; rintro e w2 ⟨p, c, n, xs, rfl, hn, hr, hb, hx⟩; have HX := Lib.hid hx; have HNn := Lib.hid hn; clear hx hn)
              | (at_builtin; refine wpList_append_own _ rfl _ _ 25 rfl w.heap.size 28 i0 (.slice none 0 0) 1 24 Tryz.underlying25 hi hz0 hz1 hz2 rfl (by decide) _ _ _ rfl ((own_belowD HH.out.rows.own hb).alloc _) ⟨_, 0, none⟩ 1 1 [.slice p (n + 1) c] rfl rfl (cell_one_new _ _ _) (fun x hx => by simp at hx; subst hx; rfl) (by unfold maxLen; omega) (by omega) (by have := hb.size; simp; omega) ?_; intro v' w3 hown' hgrow3 _))
            have HS := HH.out.some (.inl rfl) HW.out hb hr HX.out hown' hgrow3
            go_roundw
            case rel => exact ⟨_, _, vs ++ [_], xss ++ [xs], rfl, by go_num, HS⟩
            case measure => first | (simp [intOf]; done) | (simp [intOf]; omega)
          · have e10 : ((s[k].toNat : Int) == 10) = true := by rw [h10]; rfl
            clear h10
            go_wp2_with (first
              | (go_at_call 12; refine (cW _).mono ?_; rintro e w2 ⟨p, c, n, xs, rfl, hn, hr, hb, hx⟩; have HX := Lib.hid hx; have HNn := Lib.hid hn; clear hx hn)
              | (at_builtin; refine wpList_append_own _ rfl _ _ 25 rfl w.heap.size 28 i0 (.slice none 0 0) 1 24 Tryz.underlying25 hi hz0 hz1 hz2 rfl (by decide) _ _ _ rfl ((own_belowD HH.out.rows.own hb).alloc _) ⟨_, 0, none⟩ 1 1 [.slice p (n + 1) c] rfl rfl (cell_one_new _ _ _) (fun x hx => by simp at hx; subst hx; rfl) (by unfold maxLen; omega) (by omega) (by have := hb.size; simp; omega) ?_; intro v' w3 hown' hgrow3 _))
            have HS := HH.out.some HF.out HW.out hb hr HX.out hown' hgrow3
            go_roundw
            case rel => exact ⟨_, _, vs ++ [_], xss ++ [xs], rfl, by go_num, HS⟩
            case measure => first | (simp [intOf]; done) | (simp [intOf]; omega)
      · have hlt : k < s.size := by
          rcases Nat.lt_or_ge k s.size with h | h
          · exact h
          · exact absurd (.inl (by omega)) hf
        have h10 : s[k] ≠ 10 := fun e => hf (.inr ⟨hlt, e⟩)
        have e10 := ne10_int h10
        have HM := Lib.hid (HH.out.more hlt h10)
        clear hf h10
        have hmx : ¬ (9223372036854775807 < L.size + (min (k + 1) s.size - k)) := by omega
        go_wp2
        go_roundw
        case rel => exact ⟨_, _, vs, xss, rfl, by go_num, HM.out⟩
        case measure => first | (simp [intOf]; done) | (simp [intOf]; omega)
end Go.Proofs.YtkapnepkkeaiaaaGreatDoor

namespace Go.Proofs.YtkapnepkkeaiaaaGreatDoor
open Go.RowKit Go.Lib Dl
set_option maxRecDepth 100000

theorem StrRow.at_ {w : World} {p : Option Addr} {n c : Nat} {xs : List ByteArray} (h : StrRow w (.slice p n c) xs) {j : Nat} (hj : j < xs.length) :
    ∃ g, p = some ⟨g, 0, none⟩ ∧ w.cell? ⟨g, j, none⟩ = some (.string xs[j]) := by
  have hcells := fun g => World.ownsRow.cells (g := g) h
  rcases h.2 with ⟨h0, h1⟩ | ⟨g, cap, cur, hv, _⟩
  · omega
  · injection hv with hp hn hc
    refine ⟨g, hp, ?_⟩
    have := hcells g (by rw [hp]; rfl) j (.string xs[j]) (by simp [hj])
    have hadd : (⟨g, 0, none⟩ : Addr).add j = ⟨g, j, none⟩ := by unfold Addr.add; split <;> simp_all
    rwa [hadd] at this
theorem RowsV.form {w : World} {B : Nat} {V : Value} {vs : List Value} {xss : List (List ByteArray)} (h : RowsV w B V vs xss) : ∃ p c, V = .slice p xss.length c := by
  rcases h.own.2 with ⟨rfl, h0⟩ | ⟨g, cap, cur, rfl, _⟩
  · exact ⟨none, 0, by rw [← h.len, h0]⟩
  · exact ⟨_, _, by rw [h.len]⟩
theorem RowsV.at_ {w : World} {B : Nat} {p : Option Addr} {n c : Nat} {vs : List Value} {xss : List (List ByteArray)} (h : RowsV w B (.slice p n c) vs xss) {k : Nat} (hk : k < xss.length) :
    ∃ g q cq, p = some ⟨g, 0, none⟩ ∧ w.cell? ⟨g, k, none⟩ = some (.slice q xss[k].length cq) ∧ StrRow w (.slice q xss[k].length cq) xss[k] := by
  have hcells := fun g => World.ownsRow.cells (g := g) h.own
  have hl := h.len
  rcases h.own.2 with ⟨h0, h1⟩ | ⟨g, cap, cur, hv, _⟩
  · omega
  · injection hv with hp hn hc
    have he := h.each k vs[k] xss[k] (by simp) (by simp)
    obtain ⟨q, cq, hq⟩ := he.form
    refine ⟨g, q, cq, hp, ?_, by rw [← hq]; exact he⟩
    have := hcells g (by rw [hp]; rfl) k vs[k] (by simp)
    have hadd : (⟨g, 0, none⟩ : Addr).add k = ⟨g, k, none⟩ := by unfold Addr.add; split <;> simp_all
    rw [hadd, hq] at this
    exact this

theorem drewN_drewN' (w : World) (a b : Nat) : (w.drewN a).drewN b = w.drewN (a + b) := by
  induction b with
  | zero => rfl
  | succ b ih => show ((w.drewN a).drewN b).drew = (w.drewN (a + b)).drew; rw [ih]

def SameOut (w : World) (e : Ending) (w' : World) : Prop := e = .returned (.bool true) ∧ ∃ q, w' = w.drewN q

set_option maxHeartbeats 1600000 in
theorem same_any (w : World) (V1 V2 : Value) (B1 B2 : Nat) (vs1 vs2 : List Value) (xss : List (List ByteArray)) (h1 : RowsV w B1 V1 vs1 xss) (h2 : RowsV w B2 V2 vs2 xss) (hn : xss.length ≤ 100000) (hm : ∀ xs ∈ xss, xs.length ≤ 100000) :
    Calls Tryz.prog 6 #[V1, V2] w (SameOut w) := by
  obtain ⟨p1, c1, rfl⟩ := h1.form
  obtain ⟨p2, c2, rfl⟩ := h2.form
  have H1 := Lib.hid h1
  have H2 := Lib.hid h2
  have HM := Lib.hid hm
  clear h1 h2 hm
  go_enter Tryz.func6, Tryz.ntmps6
  go_wp2
  go_loopw [5] (fun i wr => ∃ (k q : Nat), i = .int .i64 k ∧ k ≤ xss.length ∧ wr = w.drewN q) (fun i _ => xss.length - (intOf i).toNat)
  case atStart => exact ⟨0, 0, rfl, Nat.zero_le _, rfl⟩
  case round =>
    obtain ⟨k, q, rfl, hk, rfl⟩ := hrel
    by_cases hlt : k < xss.length
    · obtain ⟨g1, q1, d1, rfl, hc1, hr1⟩ := H1.out.at_ hlt
      obtain ⟨g2, q2, d2, rfl, hc2, hr2⟩ := H2.out.at_ hlt
      go_wp2
      go_quiet (fail)
      go_wp2
      go_loopw [6] (fun i wr => ∃ (j q' : Nat), i = .int .i64 j ∧ j ≤ xss[k].length ∧ wr = w.drewN q') (fun i _ => xss[k].length - (intOf i).toNat)
      case atStart => exact ⟨0, _, rfl, Nat.zero_le _, drewN_drewN' _ _ _⟩
      case round =>
        obtain ⟨j, q', rfl, hj, rfl⟩ := hrel
        have hml := HM.out _ (List.getElem_mem hlt)
        by_cases hjl : j < xss[k].length
        · obtain ⟨i1, rfl, hd1⟩ := hr1.at_ hjl
          obtain ⟨i2, rfl, hd2⟩ := hr2.at_ hjl
          go_wp2
          go_quiet (fail)
          go_wp2
          go_roundw
          case rel => exact ⟨j + 1, _, by go_num, by omega, rfl⟩
          case measure => first | (simp [intOf]; done) | (simp [intOf]; omega)
        · go_wp2
          go_roundw
          case rel => exact ⟨k + 1, q', by go_num, by omega, rfl⟩
          case measure => first | (simp [intOf]; done) | (simp [intOf]; omega)
    · go_wp2
      go_ret
      exact ⟨rfl, q, rfl⟩
end Go.Proofs.YtkapnepkkeaiaaaGreatDoor

namespace Go.Proofs.YtkapnepkkeaiaaaGreatDoor
open Go.RowKit Go.Lib Go.Shelf Dl
set_option maxRecDepth 100000

theorem gapR_int (x : Nat) : gapR x = (((x : Int) == 32) || ((x : Int) == 9)) := by
  unfold gapR
  congr 1 <;> (rw [Bool.eq_iff_iff]; simp only [beq_iff_eq]; omega)

/-- the closure pays -/
theorem clo_pays (w : World) : PredGrows Tryz.prog 21 #[] gapR w := by
  intro W x hx hb
  show Calls Tryz.prog 21 #[.int .i32 (x : Int)] W _
  have HG := Lib.hid (gapR_int x)
  cases h1 : ((x : Int) == 32) <;> cases h2 : ((x : Int) == 9)
  all_goals
    go_enter Tryz.func21, Tryz.ntmps21
    go_wp2
    go_ret
    exact ⟨ret_boolD (by rw [HG.out, h1, h2]; rfl), Below.refl _ _⟩

/-- the variable MaxLen -/
def MaxIs (w : World) : Prop := ∃ m : Int, w.cell? ⟨0, 0, none⟩ = some (.int .i64 m)
theorem MaxIs.below {w w' : World} (h : MaxIs w) (hb : Below w.heap.size w w') : MaxIs w' := by
  obtain ⟨m, hm⟩ := h
  have : (⟨0, 0, none⟩ : Addr).block < w.heap.size := World.block_lt_of_cell? w _ hm
  exact ⟨m, (hb.cell this).trans hm⟩

theorem below_drewND (w : World) (n : Nat) : Below w.heap.size w (w.drewN n) := ⟨rfl, rfl, rfl, Nat.le_refl _, fun _ _ => rfl⟩

theorem wordsG_len (l : List UInt8) : (goFieldsP gapR ⟨(cut l [35]).1.toArray⟩).map (·.data.toList) = wordsG l := rfl

theorem cut_len (l sep : List UInt8) : (Lib.cut l sep).1.length ≤ l.length := by
  unfold Lib.cut
  split
  · simp; omega
  · exact Nat.le_refl _

set_option maxHeartbeats 1600000 in
theorem wordsOf_any (s : ByteArray) (w : World) (hs : s.size ≤ 10000) (hm : MaxIs w) : Calls Tryz.prog 11 #[.string s] w (WordsOut s w) := by
  obtain ⟨m, hm⟩ := hm
  have cC : Calls Tryz.prog 19 #[.string s, .string ⟨#[35]⟩] w fun e w' => e = .returned (.tuple #[.string ⟨(Lib.cut s.data.toList [35]).1.toArray⟩, .string ⟨(Lib.cut s.data.toList [35]).2.1.toArray⟩, .bool (Lib.cut s.data.toList [35]).2.2]) ∧ ∃ n, w' = w.drewN n :=
    Any.strings_Cut laysCut s ⟨#[35]⟩ m w (by omega) hm
  have hl := cut_len s.data.toList [35]
  have hl2 : s.data.toList.length = s.size := by simp
  have HT : Hid ((goFieldsP gapR ⟨(Lib.cut s.data.toList [35]).1.toArray⟩).map (·.data.toList) = wordsB s.data.toList []) := Lib.hid (words_eq s.data.toList)
  generalize Lib.cut s.data.toList [35] = T at cC hl HT
  have cF : ∀ W, Calls Tryz.prog 20 #[.string ⟨T.1.toArray⟩, .func (.func 21) #[] #[]] W fun e w' => ∃ A, e = .returned (.slice (some ⟨A, 0, none⟩) (Lib.goFieldsP gapR ⟨T.1.toArray⟩).length (Lib.goFieldsP gapR ⟨T.1.toArray⟩).length) ∧ W.heap.size ≤ A ∧
      w'.ownsRow W.heap.size 9 1 (.slice (some ⟨A, 0, none⟩) (Lib.goFieldsP gapR ⟨T.1.toArray⟩).length (Lib.goFieldsP gapR ⟨T.1.toArray⟩).length) (Lib.goFieldsP gapR ⟨T.1.toArray⟩).length ((Lib.goFieldsP gapR ⟨T.1.toArray⟩).map Value.string) ∧ Below W.heap.size W w' := fun W =>
    Any.strings_FieldsFunc_grows laysFF 21 #[] (enters_of Tryz.func21 (by kernel_rfl) rfl) gapR ⟨T.1.toArray⟩ W (by have : (⟨T.1.toArray⟩ : ByteArray).size = T.1.length := rfl; omega) (clo_pays W) (by kernel_rfl) (by kernel_rfl)
  generalize Lib.goFieldsP gapR ⟨T.1.toArray⟩ = FS at cF HT
  clear hm hl hl2
  go_enter Tryz.func11, Tryz.ntmps11
  go_wp2_with (first
    | (go_at_call 19; refine cC.mono ?_; rintro e w' ⟨rfl, n, rfl⟩)
    | (go_at_call 20; refine (cF _).mono ?_; rintro e w' ⟨A, rfl, hA, hown, hb⟩))
  go_ret
  exact ⟨_, FS, rfl, ownsRow_base hown (Nat.zero_le _), (below_drewND w n).trans (hb.mono (Nat.le_refl _)), HT.out⟩
end Go.Proofs.YtkapnepkkeaiaaaGreatDoor

namespace Go.Proofs.YtkapnepkkeaiaaaGreatDoor
open Go.RowKit Go.Lib Go.Shelf Dl
set_option maxRecDepth 100000

theorem splitK_le (sep : List UInt8) : ∀ (k : Nat) (s : List UInt8), ∀ p ∈ splitK sep 0 k s, p.length ≤ s.length
  | 0, s, p, hp => by simp [splitK] at hp; subst hp; exact Nat.le_refl _
  | k + 1, s, p, hp => by
    unfold splitK at hp
    split at hp
    · simp at hp; subst hp; exact Nat.le_refl _
    · rcases List.mem_cons.1 hp with rfl | hp
      · simp; omega
      · have := splitK_le sep k _ p hp
        simp at this
        omega

/-- the pieces of a text -/
structure Pieces (s : ByteArray) (ps : List ByteArray) : Prop where
  data : ps.map (·.data.toList) = split s.data.toList [10]
  each : ∀ p ∈ ps, p.size ≤ s.size
  len : ps.length ≤ s.size + 1

theorem pieces_of (s : ByteArray) : Pieces s (splitB ⟨#[10]⟩ 0 (countB s ⟨#[10]⟩) s) := by
  have hd := splitB_data ⟨#[10]⟩ 0 (countB s ⟨#[10]⟩) s
  refine ⟨hd, fun p hp => ?_, ?_⟩
  · have h1 : p.data.toList ∈ splitK [10] 0 (countB s ⟨#[10]⟩) s.data.toList := by
      have : p.data.toList ∈ (splitB ⟨#[10]⟩ 0 (countB s ⟨#[10]⟩) s).map (·.data.toList) := List.mem_map.2 ⟨p, hp, rfl⟩
      rw [hd] at this
      exact this
    have := splitK_le _ _ _ _ h1
    simpa using this
  · have h1 := splitB_length_le ⟨#[10]⟩ 0 (countB s ⟨#[10]⟩) s
    have h2 := countB_le ⟨#[10]⟩ (Nat.le_refl 1) s.size s (Nat.le_refl _)
    omega

structure DI (s : ByteArray) (ps : List ByteArray) (w1 : World) (k : Nat) (vs : List Value) (xss : List (List ByteArray)) (o : Value) (wr : World) : Prop where
  hk : k ≤ ps.length
  hv : vs.length ≤ k
  rows : RowsV wr w1.heap.size o vs xss
  bel : Below w1.heap.size w1 wr
  eq : reads xss ++ putAll ((ps.drop k).map (·.data.toList)) = linesB s.data.toList []

theorem pieces_step (ps : List ByteArray) (k : Nat) (h : k < ps.length) : putAll ((ps.drop k).map (·.data.toList)) = put (wordsB ps[k].data.toList []) (putAll ((ps.drop (k + 1)).map (·.data.toList))) := by
  rw [List.drop_eq_getElem_cons h, List.map_cons, putAll, words_eq]

theorem DI.start {s : ByteArray} {ps : List ByteArray} (hp : Pieces s ps) (w1 : World) : DI s ps w1 0 [] [] (.slice none 0 0) w1 :=
  ⟨Nat.zero_le _, Nat.le_refl _, ⟨rfl, World.ownsRow_nil _ _ _ _, fun i v xs h => by simp at h⟩, Below.refl _ _, by
    rw [List.drop_zero, hp.data, ← lines_eq]; simp [reads, linesG]⟩
theorem DI.none {s : ByteArray} {ps : List ByteArray} {w1 wr w2 : World} {k : Nat} {vs : List Value} {xss : List (List ByteArray)} {o : Value} (h : DI s ps w1 k vs xss o wr) (hlt : k < ps.length)
    (hw : wordsB ps[k].data.toList [] = []) (hb : Below wr.heap.size wr w2) : DI s ps w1 (k + 1) vs xss o w2 :=
  ⟨by omega, by have := h.hv; omega, h.rows.below hb, h.bel.trans (hb.mono h.bel.size), by rw [← h.eq, pieces_step ps k hlt, hw]; simp [put]⟩
theorem DI.some {s : ByteArray} {ps : List ByteArray} {w1 wr w2 w3 : World} {k : Nat} {vs : List Value} {xss : List (List ByteArray)} {o o' u : Value} {xs : List ByteArray} {ob : Obj} (h : DI s ps w1 k vs xss o wr) (hlt : k < ps.length)
    (hw : wordsB ps[k].data.toList [] ≠ []) (hb : Below wr.heap.size wr w2) (hu : StrRow w2 u xs) (hx : xs.map (·.data.toList) = wordsB ps[k].data.toList [])
    (hown : w3.ownsRow w1.heap.size 28 1 o' (vs.length + 1) (vs ++ [u])) (hg : (w2.alloc ob).grownBy w3 o.ownBlock) : DI s ps w1 (k + 1) (vs ++ [u]) (xss ++ [xs]) o' w3 := by
  have h2 := h.rows.below hb
  refine ⟨by omega, by have := h.hv; simp; omega, h2.push hu hown hg, ?_, ?_⟩
  · have hb2 := h.bel.trans (hb.mono h.bel.size)
    exact (hb2.alloc hb2.size ob).grown hg (by have := hb2.size; simp; omega) (fun j hj => (h.rows.own.lt j hj).1)
  · rw [← h.eq, pieces_step ps k hlt]
    simp [put, hw, reads, hx]

theorem RowsV.base {w : World} {B B' : Nat} {V : Value} {vs : List Value} {xss : List (List ByteArray)} (h : RowsV w B V vs xss) (hB : B' ≤ B) : RowsV w B' V vs xss := ⟨h.len, ownsRow_base h.own hB, h.each⟩

set_option maxHeartbeats 1600000 in
theorem dlines_any (s : ByteArray) (w : World) (hs : s.size ≤ 10000) (hm : MaxIs w) : Calls Tryz.prog 7 #[.string s] w (LinesOut (linesB s.data.toList []) w) := by
  obtain ⟨i0, hi, hz0, hz1, hz2⟩ := info_parts info28
  have hm0 := hm
  obtain ⟨m, hm⟩ := hm
  have cS : Calls Tryz.prog 10 #[.string s, .string ⟨#[10]⟩] w fun e w' => e = .returned (.slice (some ⟨w.heap.size, 0, none⟩) (Lib.countB s ⟨#[10]⟩ + 1) (Lib.countB s ⟨#[10]⟩ + 1)) ∧ w' = w.alloc (.cells ((Lib.splitB ⟨#[10]⟩ 0 (Lib.countB s ⟨#[10]⟩) s).map Value.string).toArray 9) :=
    Any.strings_Split laysSplit (by kernel_rfl) s ⟨#[10]⟩ m w (by omega) hm (Nat.le_refl 1)
  have HP := Lib.hid (pieces_of s)
  have hlen : (Lib.splitB ⟨#[10]⟩ 0 (Lib.countB s ⟨#[10]⟩) s).length = Lib.countB s ⟨#[10]⟩ + 1 := splitB_all ⟨#[10]⟩ (Nat.le_refl 1) 0 _ s rfl
  rw [← hlen] at cS
  generalize Lib.splitB ⟨#[10]⟩ 0 (Lib.countB s ⟨#[10]⟩) s = ps at cS HP
  have hpl := HP.out.len
  clear hlen hm
  have HM := Lib.hid hm0
  clear hm0
  go_enter Tryz.func7, Tryz.ntmps7
  go_wp2_with (go_at_call 10; refine cS.mono ?_; rintro e w1 ⟨rfl, hw1⟩)
  clear hw1
  obtain ⟨W1, hW1⟩ : ∃ W1 : World, W1 = w.alloc (.cells (ps.map Value.string).toArray 9) := ⟨_, rfl⟩
  rw [← hW1]
  have hB1 : Below w.heap.size w W1 := by rw [hW1]; exact (Below.refl _ _).alloc (Nat.le_refl _) _
  have hC1 : Hid (∀ k (h : k < ps.length), W1.cell? ⟨w.heap.size, k, none⟩ = some (.string ps[k])) := Lib.hid fun k h => by
    rw [hW1, cell_of_row (w.alloc (.cells (ps.map Value.string).toArray 9)) w.heap.size k _ 9 (0, 0) (heap_alloc_new w _)]
    simp [h]
  have hlt1 : w.heap.size < W1.heap.size := by rw [hW1]; simp
  have HM1 := Lib.hid (HM.out.below hB1)
  clear hW1
  go_loopw [3, 10] (fun o i wr => ∃ (k : Nat) (vs : List Value) (xss : List (List ByteArray)), i = .int .i64 k ∧ DI s ps W1 k vs xss o wr) (fun _ i _ => ps.length - (intOf i).toNat)
  case atStart => exact ⟨0, [], [], rfl, DI.start HP.out W1⟩
  case round =>
    obtain ⟨k, vs, xss, rfl, HI⟩ := hrel
    have hk := HI.hk
    have hv := HI.hv
    have hsz := HI.bel.size
    have HH := Lib.hid HI
    clear HI
    by_cases hlt : k < ps.length
    · have hcell : wr.cell? ⟨w.heap.size, k, none⟩ = some (.string ps[k]) := (HH.out.bel.cell (p := ⟨w.heap.size, k, none⟩) hlt1).trans (hC1.out k hlt)
      have hps := HP.out.each ps[k] (List.getElem_mem hlt)
      have cW0 := wordsOf_any ps[k] wr (by omega) (HM1.out.below HH.out.bel)
      by_cases hW : wordsB ps[k].data.toList [] = []
      · have cW := cW0.mono fun e w' ho => none_of hW ho
        have HW := Lib.hid hW
        clear hW cW0
        go_wp2_with (go_at_call 11; refine cW.mono ?_; rintro e w2 ⟨p, c, rfl, hb⟩)
        have HN := HH.out.none hlt HW.out hb
        go_roundw
        case rel => exact ⟨_, vs, xss, by go_num, HN⟩
        case measure => first | (simp [intOf]; done) | (simp [intOf]; omega)
      · have cW := cW0.mono fun e w' ho => some_of_ hW ho
        have HW := Lib.hid hW
        clear hW cW0
        go_wp2_with (first
          | (go_at_call 11; refine cW.mono ?_; rintro e w2 ⟨p, c, n, xs, rfl, hn, hr, hb, hx⟩; have HX := Lib.hid hx; have HNn := Lib.hid hn; clear hx hn)
          | (at_builtin; refine wpList_append_own _ rfl _ _ 25 rfl W1.heap.size 28 i0 (.slice none 0 0) 1 24 Tryz.underlying25 hi hz0 hz1 hz2 rfl (by decide) _ _ _ rfl ((own_belowD HH.out.rows.own hb).alloc _) ⟨_, 0, none⟩ 1 1 [.slice p (n + 1) c] rfl rfl (cell_one_new _ _ _) (fun x hx => by simp at hx; subst hx; rfl) (by unfold maxLen; omega) (by omega) (by have := hb.size; simp; omega) ?_; intro v' w3 hown' hgrow3 _))
        have HS := HH.out.some hlt HW.out hb hr HX.out hown' hgrow3
        go_roundw
        case rel => exact ⟨_, vs ++ [_], xss ++ [xs], by go_num, HS⟩
        case measure => first | (simp [intOf]; done) | (simp [intOf]; omega)
    · go_wp2
      go_ret
      refine ⟨_, vs, xss, rfl, HH.out.rows.base (Nat.le_of_lt hlt1), hB1.trans (HH.out.bel.mono (Nat.le_of_lt hlt1)), ?_⟩
      have := HH.out.eq
      rw [List.drop_eq_nil_of_le (by omega)] at this
      simpa [putAll] using this
end Go.Proofs.YtkapnepkkeaiaaaGreatDoor
