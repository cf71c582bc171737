/- The law's walk. -/
import Derived.Test.YtkapnepkkeaiaaaGreatDoorDW
import Derived.Test.YtkapnepkkeaiaaaGreatDoorDWA
namespace Go.Proofs.YtkapnepkkeaiaaaGreatDoor
open Go.RowKit Go.Lib Go.Shelf Dl
set_option maxRecDepth 100000

theorem wordsB_len : ∀ l w : List UInt8, (wordsB l w).length ≤ l.length + 1
  | [], w => by unfold wordsB; split <;> simp
  | c :: l, w => by
    unfold wordsB
    have h1 := wordsB_len l []
    have h2 := wordsB_len l (w ++ [c])
    split
    · split <;> simp
    · split
      · split
        · simp; omega
        · simp; omega
      · simp; omega
theorem linesB_len : ∀ s l : List UInt8, (linesB s l).length ≤ s.length + 1 ∧ ∀ ws ∈ linesB s l, ws.length ≤ s.length + l.length + 1
  | [], l => by
    unfold linesB put
    have := wordsB_len l []
    split
    · simp
    · simp; omega
  | c :: s, l => by
    have h0 := linesB_len s []
    have h1 := linesB_len s (l ++ [c])
    have h2 := wordsB_len l []
    unfold linesB
    split
    · unfold put
      split
      · refine ⟨by simp; omega, fun ws hw => ?_⟩
        have := h0.2 ws hw
        simp at this ⊢; omega
      · refine ⟨by simp; omega, fun ws hw => ?_⟩
        rcases List.mem_cons.1 hw with rfl | hw
        · simp; omega
        · have := h0.2 ws hw
          simp at this ⊢; omega
    · refine ⟨by simp; omega, fun ws hw => ?_⟩
      have := h1.2 ws hw
      simp at this ⊢; omega

theorem data_inj {a b : ByteArray} (h : a.data.toList = b.data.toList) : a = b := by
  cases a; cases b
  simp only [ByteArray.mk.injEq]
  exact Array.toList_inj.1 h
theorem datas_inj : ∀ {a b : List ByteArray}, a.map (·.data.toList) = b.map (·.data.toList) → a = b
  | [], [], _ => rfl
  | [], b :: r, h => by simp at h
  | a :: l, [], h => by simp at h
  | a :: l, b :: r, h => by
    simp only [List.map_cons, List.cons.injEq] at h
    rw [data_inj h.1, datas_inj h.2]
theorem reads_inj : ∀ {a b : List (List ByteArray)}, reads a = reads b → a = b
  | [], [], _ => rfl
  | [], b :: r, h => by simp [reads] at h
  | a :: l, [], h => by simp [reads] at h
  | a :: l, b :: r, h => by
    simp only [reads, List.map_cons, List.cons.injEq] at h
    rw [datas_inj h.1, reads_inj h.2]

/-- two readings of one text are the same -/
theorem same_lines (s : ByteArray) (hs : s.size ≤ 10000) (w : World) (V1 V2 : Value) (B1 B2 : Nat) (vs1 vs2 : List Value) (xs1 xs2 : List (List ByteArray)) (h1 : RowsV w B1 V1 vs1 xs1) (h2 : RowsV w B2 V2 vs2 xs2)
    (e1 : reads xs1 = linesB s.data.toList []) (e2 : reads xs2 = linesB s.data.toList []) : Calls Tryz.prog 6 #[V1, V2] w (SameOut w) := by
  obtain rfl : xs1 = xs2 := reads_inj (e1.trans e2.symm)
  have hl := linesB_len s.data.toList []
  rw [← e1] at hl
  have hd : s.data.toList.length = s.size := by simp
  refine same_any w V1 V2 B1 B2 vs1 vs2 xs1 h1 h2 ?_ fun xs hx => ?_
  · have := hl.1
    simp [reads] at this
    omega
  · have := hl.2 _ (List.mem_map.2 ⟨xs, hx, rfl⟩)
    simp at this
    omega

theorem SpaceIs.below {w w' : World} (h : SpaceIs w) (hb : Below w.heap.size w w') : SpaceIs w' := by
  obtain ⟨cs, h1, h2⟩ := h
  exact ⟨cs, (hb.block _ (Array.getElem?_eq_some_iff.1 h1).1).trans h1, h2⟩

theorem bnext {w a b : World} (h : Below w.heap.size w a) (k : Below a.heap.size a b) : Below w.heap.size w b := h.trans (k.mono h.size)

set_option maxHeartbeats 1600000 in
theorem law_any (s t : ByteArray) (w : World) (hs : s.size ≤ 9223372036854775807) (ht : t.size ≤ 9223372036854775807) (hsp : SpaceIs w) (hm : MaxIs w) :
    Calls Tryz.prog 3 #[.string s, .string t] w fun e w' => e = .returned (.bool true) ∧ Below w.heap.size w w' := by
  have HA := Lib.hid (awake_any w hsp)
  have HM := Lib.hid hm
  clear hsp hm
  have cS : ∀ W, Calls Tryz.prog 5 #[.string s] W fun e w' => e = .returned (.string (shortB s)) ∧ w' = W := fun W => short_any s W hs
  have cT : ∀ W, Calls Tryz.prog 5 #[.string t] W fun e w' => e = .returned (.string (shortB t)) ∧ w' = W := fun W => short_any t W ht
  have hx := shortB_size s
  have hy := shortB_size t
  generalize shortB s = x at cS hx
  generalize shortB t = y at cT hy
  go_enter Tryz.func3, Tryz.ntmps3
  go_wp2_with fail
  refine HA.out.mono ?_
  rintro e w1 ⟨rfl, hb1⟩
  have HM1 := Lib.hid (HM.out.below hb1)
  go_wp2_with fail
  refine (cS _).mono ?_
  rintro e w' ⟨rfl, rfl⟩
  go_wp2_with fail
  refine (cT _).mono ?_
  rintro e w' ⟨rfl, rfl⟩
  go_wp2_with fail
  refine (cT _).mono ?_
  rintro e w1 ⟨rfl, rfl⟩
  go_wp2_with fail
  refine (dlines_any x _ (by omega) HM1.out).mono ?_
  rintro e w2 ⟨V1, vs1, xs1, rfl, hr1, hb2, he1⟩
  have HE1 := Lib.hid he1
  clear he1
  have HM2 := Lib.hid (HM1.out.below hb2)
  go_wp2_with fail
  refine (rlines_any x _ (by omega)).mono ?_
  rintro e w3 ⟨V2, vs2, xs2, rfl, hr2, hb3, he2⟩
  have HS := Lib.hid (same_lines x (by omega) w3 V1 V2 _ _ vs1 vs2 xs1 xs2 (hr1.below hb3) hr2 HE1.out he2)
  have HM3 := Lib.hid (HM2.out.below hb3)
  clear he2
  go_wp2_with fail
  refine HS.out.mono ?_
  rintro e w4 ⟨rfl, q, rfl⟩
  have HM4 := Lib.hid (HM3.out.below (below_drewND w3 q))
  go_wp2_with fail
  obtain ⟨W4, hW4⟩ : ∃ W4 : World, W4 = w3.drewN q := ⟨_, rfl⟩
  have hb4 : Below w3.heap.size w3 W4 := by rw [hW4]; exact below_drewND w3 q
  rw [← hW4] at HM4 ⊢
  clear hW4
  have hz : (y ++ ⟨#[32, 9]⟩ ++ x ++ ⟨#[35]⟩ ++ y ++ ⟨#[10]⟩ ++ x : ByteArray).size ≤ 10000 := by
    simp only [ByteArray.size_append]
    have e1 : (⟨#[32, 9]⟩ : ByteArray).size = 2 := rfl
    have e2 : (⟨#[35]⟩ : ByteArray).size = 1 := rfl
    have e3 : (⟨#[10]⟩ : ByteArray).size = 1 := rfl
    omega
  have cD := Lib.hid (dlines_any _ W4 hz HM4.out)
  have cR := Lib.hid (fun W => rlines_any _ W hz)
  have cE := Lib.hid (same_lines _ hz)
  clear hz
  refine cD.out.mono ?_
  rintro e w5 ⟨V3, vs3, xs3, rfl, hr3, hb5, he3⟩
  have HE3 := Lib.hid he3
  clear he3
  go_wp2_with fail
  refine (cR.out _).mono ?_
  rintro e w6 ⟨V4, vs4, xs4, rfl, hr4, hb6, he4⟩
  have HS2 := Lib.hid (cE.out w6 V3 V4 _ _ vs3 vs4 xs3 xs4 (hr3.below hb6) hr4 HE3.out he4)
  clear he4
  go_wp2_with fail
  refine HS2.out.mono ?_
  rintro e w7 ⟨rfl, q7, rfl⟩
  go_wp2
  go_ret
  exact ⟨rfl, bnext (bnext (bnext (bnext (bnext (bnext hb1 hb2) hb3) hb4) hb5) hb6) (below_drewND w6 q7)⟩
end Go.Proofs.YtkapnepkkeaiaaaGreatDoor
