/- A walk by the kernel over a program's code, and that it is sound: part X2. -/
import Derived.Test.YtkapnepkkeaiaaaGreatDoorX1
import Derived.Laws.BytesString
import Derived.MapKept
import Derived.WideKeyRuns
namespace Sx
open Go

section ops
variable {P : Program} {ρ : Rho} {h h' : H} {w : World} {env : Env} {a : Act} {o : Oper} {v : V}

theorem elemS_some {t e : TypeId} (he : elemS P t = some e) : P.underlying t = some (.slice e) := by
  unfold elemS at he
  split at he
  · rename_i hu; cases he; exact hu
  · cases he

theorem natOf_some {x : V} {n : Nat} {X : Value} (hn : natOf x = some n) (hx : VR ρ x X) : ∃ k, X = .int k (.ofNat n) := by
  unfold natOf at hn
  split at hn
  · cases hn; exact ⟨_, hx⟩
  · cases hn

theorem repl_length (z : List V) : ∀ n, (repl z n).length = n * z.length
  | 0 => by simp [repl]
  | n + 1 => by simp [repl, repl_length z n, Nat.succ_mul, Nat.add_comm]

theorem repl_get (z : List V) : ∀ (n i : Nat), i < n * z.length → (repl z n)[i]? = z[i % z.length]?
  | 0, i, hi => by simp at hi
  | n + 1, i, hi => by
    simp only [repl]
    rw [List.getElem?_append]
    by_cases h1 : i < z.length
    · rw [if_pos h1, Nat.mod_eq_of_lt h1]
    · rw [if_neg h1, repl_get z n (i - z.length) (by rw [Nat.succ_mul] at hi; omega)]
      rw [show i % z.length = (i - z.length) % z.length from Nat.mod_eq_sub_mod (by omega)]

/-- a row of zeroes, as the model lays it -/
theorem zeroes_get {z : List V} {zero : Array Value} (hz : VRs ρ z zero.toList) (n i : Nat) (hi : i < n) :
    ∃ x, ((Array.range n).map (fun j => zero[j % zero.size]!))[i]? = some x ∧ VR ρ (cellAt z .leaf i) x := by
  have hl := hz.length
  simp at hl
  refine ⟨zero[i % zero.size]!, by simp [hi], ?_⟩
  rw [cellAt_leaf]
  rw [← hl]
  cases hv : z[i % zero.size]? with
  | none => exact trivial
  | some u =>
    obtain ⟨x, hx, hr⟩ := hz.get _ u hv
    rw [Array.getElem?_toList] at hx
    show VR ρ u _
    rw [getElem!_def, hx]
    exact hr

theorem zeroes_VRs {z : List V} {zero : Array Value} (hz : VRs ρ z zero.toList) (n : Nat) : VRs ρ (repl z n) ((Array.range (n * zero.size)).map (fun j => zero[j % zero.size]!)).toList := by
  have hl := hz.length
  simp at hl
  refine VRs.of_get (by simp [repl_length, hl]) fun i v hv => ?_
  have hi : i < n * z.length := by
    rcases Nat.lt_or_ge i (n * z.length) with k | k
    · exact k
    · rw [List.getElem?_eq_none (by rw [repl_length]; exact k)] at hv; cases hv
  rw [repl_get z n i hi] at hv
  obtain ⟨x, hx, hr⟩ := hz.get _ v hv
  rw [Array.getElem?_toList] at hx
  refine ⟨x, ?_, hr⟩
  rw [Array.getElem?_toList]
  rw [← hl] at hi hx
  simp [hi, getElem!_def, hx]

theorem op_buildSlice {t : TypeId} {len : Nat} {parts : Array (Nat × Operand)} (tk : TypesOk P) (q : Pre P ρ h w) (e : ER ρ env a.tmps) (ho : o.op = .buildSlice t len parts) (hv : opS (.buildSlice t len parts) P env h = .one v h') : OneOk P ρ h w (execOp a.eval o) v h' := by
  simp only [opS] at hv
  split at hv
  · rename_i el hel
    have hd := elemS_some hel
    split at hv
    · rename_i z hz
      obtain ⟨x, hx, hc, _⟩ := zeroOf_ok (ρ := ρ) (w := w) hz
      split at hv
      · rename_i hzl
        have hzl' : z.length = P.cellsOf el := beq_iff.1 hzl
        unfold buildSl at hv
        split at hv
        · cases hv
        · rename_i hlim
          have hlim' : len * P.cellsOf el ≤ 16777216 := ble_iff.1 hlim
          split at hv
          · rename_i cs hf
            cases hv
            obtain ⟨hp1, hp2⟩ := parts_ok (a := a) q e parts.toList
            have hmap : (parts.map fun (p : Nat × Operand) => (p.1, a.eval p.2)).toList = parts.toList.map fun (i, x) => (i, a.eval x) := by simp
            have hcl := hc.length
            simp at hcl
            have hcz : ((if len * P.cellsOf el = 0 then pure #[] else do pure (← zeroValue el).cells : Sem (Array Value)).run P w = .ok (if len * P.cellsOf el = 0 then #[] else x.cells) w) := by
              split <;> simp [hx]
            have hzs : VRs ρ (repl z len) ((Array.range (len * P.cellsOf el)).map (fun j => (if len * P.cellsOf el = 0 then #[] else x.cells)[j % (if len * P.cellsOf el = 0 then (#[] : Array Value) else x.cells).size]!)).toList := by
              have := zeroes_VRs hc len
              rw [show x.cells.size = P.cellsOf el by omega] at this
              by_cases h0 : len * P.cellsOf el = 0
              · rw [h0] at this ⊢; simpa using this
              · rw [if_neg h0]
                rw [show x.cells.size = P.cellsOf el by omega]
                exact this
            obtain ⟨R, hR, hr⟩ := fillV_ok (fun i => some (Nat.mul i (P.cellsOf el), P.cellsOf el)) _ _ _ _ _ hf hzs hp1 hp2
            have hR' : Instr.fill (fun i => some (i * P.cellsOf el, P.cellsOf el)) _ (parts.toList.map fun (i, x) => (i, a.eval x)) = some R := hR
            have hpost := Post.cells q el cs R hr
            refine ⟨.slice (some ⟨w.heap.size, 0, none⟩) len len, _, _, .inl ?_, ⟨_, _, _, Rho.put_self _ _ _, rfl, Nat.le_refl _, Nat.le_refl _, fun _ => rfl, (fun k => by cases k), fun _ => rfl⟩, hpost⟩
            unfold execOp; rw [ho]
            simp only [Instr.buildSlice, Sem.run_bind, underlying_run hd, Result.andThen_ok, sizeOf_run (tk t _ hd)]
            rw [if_neg (by omega), hmap]
            by_cases h0 : len * P.cellsOf el = 0
            · simp only [if_pos h0] at hR' ⊢
              simp only [Sem.run_bind, Sem.run_pure, Result.andThen_ok, hR', newRow, run_newObj]
            · simp only [if_neg h0] at hR' ⊢
              simp only [Sem.run_bind, hx, Sem.run_pure, Result.andThen_ok, hR', newRow, run_newObj]
          · cases hv
      · cases hv
    · cases hv
  · cases hv

theorem wrap_nat {c : Nat} (hc : c ≤ 9223372036854775807) : IntKind.i64.wrap (.ofNat c) = .ofNat c := by
  rw [← wrapK_eq]; unfold wrapK
  rw [show fitsK .i64 (.ofNat c) = true from ble_iff.2 hc]

theorem op_makeSlice {t : TypeId} {x y : Operand} (tk : TypesOk P) (q : Pre P ρ h w) (e : ER ρ env a.tmps) (ho : o.op = .makeSlice t x y) (hv : opS (.makeSlice t x y) P env h = .one v h') : OneOk P ρ h w (execOp a.eval o) v h' := by
  have hx := eval_ok q e x
  have hy := eval_ok q e y
  simp only [opS] at hv
  split at hv
  · rename_i el hel
    have hd := elemS_some hel
    split at hv
    · rename_i l hl
      obtain ⟨kl, hX⟩ := natOf_some hl hx
      split at hv
      · rename_i c hc
        obtain ⟨kc, hY⟩ := natOf_some hc hy
        unfold makeSl at hv
        split at hv
        · cases hv
        · rename_i hlc
          have hlc' : l ≤ c := ble_iff.1 hlc
          split at hv
          · cases hv
          · rename_i hby
            have hby' : c * P.bytesOf el ≤ 140737488355328 := ble_iff.1 hby
            split at hv
            · cases hv
            · rename_i hmx
              have hmx' : c ≤ 9223372036854775807 := ble_iff.1 hmx
              split at hv
              · cases hv
              · rename_i z hz
                cases hv
                obtain ⟨zx, hzx, hzc, _⟩ := zeroOf_ok (ρ := ρ) (w := w) hz
                obtain ⟨i, hi⟩ := Option.isSome_iff_exists.1 (tk t _ hd)
                have hbytes : P.bytesOf el = i.bytes := by simp [Program.bytesOf, hi]
                have hcz : ((if c * P.cellsOf el = 0 then pure #[] else do pure (← zeroValue el).cells : Sem (Array Value)).run P w = .ok (if c * P.cellsOf el = 0 then #[] else zx.cells) w) := by
                  split <;> simp [hzx]
                have hpost := Post.row q el (c * P.cellsOf el) z .leaf false ((Array.range (c * P.cellsOf el)).map (fun j => (if c * P.cellsOf el = 0 then #[] else zx.cells)[j % (if c * P.cellsOf el = 0 then (#[] : Array Value) else zx.cells).size]!)) 0 (by simp) (fun j hj => by
                  rw [if_neg (by omega)]; exact zeroes_get hzc _ j hj) (fun k => by cases k)
                refine ⟨.slice (some ⟨w.heap.size, 0, none⟩) l c, _, _, .inl ?_, ⟨_, _, _, Rho.put_self _ _ _, rfl, Nat.le_refl _, hlc', fun _ => rfl, (fun k => by cases k), fun _ => rfl⟩, hpost⟩
                unfold execOp; rw [ho]
                have ht : ¬ (Int.ofNat c < 0 ∨ (i.bytes : Int) * Int.ofNat c > 2 ^ 48 ∨ Int.ofNat l < 0 ∨ Int.ofNat l > Int.ofNat c) := by
                  have hb : (i.bytes : Int) * Int.ofNat c ≤ 140737488355328 := by
                    rw [hbytes, Nat.mul_comm] at hby'
                    have h3 : ((i.bytes * c : Nat) : Int) ≤ ((140737488355328 : Nat) : Int) := Int.ofNat_le.2 hby'
                    rw [Int.natCast_mul] at h3
                    exact h3
                  have e1 : (0 : Int) ≤ Int.ofNat c := Int.natCast_nonneg c
                  have e2 : (0 : Int) ≤ Int.ofNat l := Int.natCast_nonneg l
                  have e3 : Int.ofNat l ≤ Int.ofNat c := Int.ofNat_le.2 hlc'
                  have e4 : (2 : Int) ^ 48 = 281474976710656 := by decide
                  rw [e4]
                  generalize (i.bytes : Int) * Int.ofNat c = m at hb
                  omega
                have ht' : (decide (Int.ofNat c < 0) || decide ((i.bytes : Int) * Int.ofNat c > 2 ^ 48) || decide (Int.ofNat l < 0) || decide (Int.ofNat l > Int.ofNat c)) = false := by
                  cases hb : (decide (Int.ofNat c < 0) || decide ((i.bytes : Int) * Int.ofNat c > 2 ^ 48) || decide (Int.ofNat l < 0) || decide (Int.ofNat l > Int.ofNat c)) with
                  | false => rfl
                  | true => exact absurd (by simpa [or_assoc] using hb) ht
                simp only [Instr.makeSlice, hX, hY, asInt, asIntOf, Sem.run_bind, underlying_run hd, Result.andThen_ok, Sem.run_pure, run_typeInfo w hi, wrap_nat hmx', wrap_nat (show l ≤ 9223372036854775807 by omega), ht', Bool.false_eq_true, if_false, run_askRoom, sizeOf_run (tk t _ hd)]
                have hcn : (Int.ofNat c).toNat = c := rfl
                have hln : (Int.ofNat l).toNat = l := rfl
                rw [hcn, hln]
                by_cases h0 : c * P.cellsOf el = 0
                · simp only [if_pos h0]
                  simp only [Sem.run_bind, Sem.run_pure, Result.andThen_ok, newRow, run_newObj]
                · simp only [if_neg h0]
                  simp only [Sem.run_bind, hzx, Sem.run_pure, Result.andThen_ok, newRow, run_newObj]
      · cases hv
    · cases hv
  · cases hv
end ops
end Sx

namespace Sx
open Go

section ops
variable {P : Program} {ρ : Rho} {h h' : H} {w : World} {env : Env} {a : Act} {o : Oper} {v : V}

theorem fieldOf_some {t : TypeId} {f : Nat} {fd : Field} (hf : fieldOf (P.underlying t) f = some fd) : ∃ fs, P.underlying t = some (.struct fs) ∧ fs[f]? = some fd ∧ fd ∈ fs.toList := by
  unfold fieldOf at hf
  split at hf
  · rename_i fs hd
    exact ⟨fs, hd, by simpa using hf, List.mem_of_getElem? hf⟩
  · cases hf

theorem op_fieldAddr {t : TypeId} {x : Operand} {f : Nat} (q : Pre P ρ h w) (e : ER ρ env a.tmps) (ho : o.op = .fieldAddr t x f) (hv : opS (.fieldAddr t x f) P env h = .one v h') : OneOk P ρ h w (execOp a.eval o) v h' := by
  have hx := eval_ok q e x
  simp only [opS, fieldA] at hv
  split at hv
  · cases hv
  · rename_i fd hf
    obtain ⟨fs, hd, hfd, _⟩ := fieldOf_some hf
    split at hv
    · rename_i p i he
      rw [he] at hx
      obtain ⟨r, hr, hx⟩ := hx
      split at hv
      · cases hv
      · rename_i n hn
        cases hv
        refine OneOk.pure q (x := .pointer (some ⟨r.blk, r.off + i + fd.offset, none⟩)) ?_ ⟨r, hr, by rw [Nat.add_eq, Nat.add_assoc]⟩
        unfold execOp; rw [ho]
        simp only [Instr.fieldAt, Sem.run_bind, underlying_run hd, Result.andThen_ok, hfd, hx, Instr.sureAddr, Sem.run_pure, fieldPlace, cellsOf_run hn, addr_add, Nat.succ_ne_zero, if_false]
    · cases hv

theorem partV_ok {t : TypeId} {cs : List V} {C : Array Value} {off : Nat} {u : V} (hp : partV P t cs off = some u) (hc : VRs ρ cs C.toList) : ∃ x, (part t C off).run P w = .ok x w ∧ VR ρ u x := by
  unfold partV partK at hp
  split at hp
  · rename_i hk
    obtain ⟨x, hx, hr⟩ := hc.get off u hp
    rw [Array.getElem?_toList] at hx
    exact ⟨x, by simp [part, kindT_one hk w, hx], hr⟩
  · rename_i n hk
    obtain ⟨h1, h2, h3⟩ := kindT_agg hk w
    split at hp
    · rename_i hb
      cases hp
      refine ⟨.agg (C.extract off (off + P.cellsOf t)), ?_, _, rfl, ?_⟩
      · simp [part, h1, h3]
      · rw [Array.toList_extract, List.extract_eq_take_drop]
        have := (hc.drop off).take n
        rw [h2] at this
        rw [show off + P.cellsOf t - off = P.cellsOf t by omega]
        rw [h2]; exact this
    · cases hp
  · cases hp

theorem op_field {t : TypeId} {x : Operand} {f : Nat} (q : Pre P ρ h w) (e : ER ρ env a.tmps) (ho : o.op = .field t x f) (hv : opS (.field t x f) P env h = .one v h') : OneOk P ρ h w (execOp a.eval o) v h' := by
  have hx := eval_ok q e x
  simp only [opS, fieldX] at hv
  split at hv
  · cases hv
  · rename_i fd hf
    obtain ⟨fs, hd, hfd, _⟩ := fieldOf_some hf
    split at hv
    · rename_i cs he
      rw [he] at hx
      obtain ⟨C, hx, hc⟩ := hx
      obtain ⟨hb, rfl⟩ := orB_one hv
      obtain ⟨y, hy, hr⟩ := partV_ok (w := w) hb hc
      exact OneOk.pure q (by unfold execOp; rw [ho]; simp only [Instr.field, Sem.run_bind, underlying_run hd, Result.andThen_ok, hfd, hx, asAgg, Sem.run_pure, hy]) hr
    · cases hv

theorem op_indexAddr {t : TypeId} {x ix : Operand} (tk : TypesOk P) (q : Pre P ρ h w) (e : ER ρ env a.tmps) (ho : o.op = .indexAddr t x ix) (hv : opS (.indexAddr t x ix) P env h = .one v h') : OneOk P ρ h w (execOp a.eval o) v h' := by
  have hx := eval_ok q e x
  have hi := eval_ok q e ix
  simp only [opS] at hv
  split at hv
  · rename_i i hn
    obtain ⟨k, hI⟩ := natOf_some hn hi
    obtain ⟨hb, rfl⟩ := orB_one hv
    unfold idxV at hb
    split at hb
    · rename_i n el hd
      split at hb
      · rename_i p off he
        rw [he] at hx
        obtain ⟨r, hr, hx⟩ := hx
        split at hb
        · rename_i hlt
          have hlt' : i + 1 ≤ n := ble_iff.1 hlt
          cases hb
          refine OneOk.pure q (x := .pointer (some ⟨r.blk, r.off + off + i * P.cellsOf el, none⟩)) ?_ ⟨r, hr, by rw [Nat.add_eq, Nat.mul_eq, Nat.add_assoc]⟩
          have hc : (0 : Int) ≤ Int.ofNat i ∧ Int.ofNat i < (n : Int) := ⟨Int.natCast_nonneg i, Int.ofNat_lt.2 (by omega)⟩
          unfold execOp; rw [ho]
          simp only [Instr.indexAt, hI, asIntOf, Sem.run_bind, Sem.run_pure, Result.andThen_ok, underlying_run hd, hx, Instr.sureAddr, if_pos hc, sizeOf_run (tk t _ hd), addr_add]
          rfl
        · cases hb
      · cases hb
    · rename_i el hd
      split at hb
      · rename_i p off len cap ee he
        rw [he] at hx
        obtain ⟨r, ad, c, hr, hx, h1, h2, h3, h4, h5⟩ := hx
        split at hb
        · rename_i hlt
          have hlt' : i + 1 ≤ len := ble_iff.1 hlt
          cases hb
          rw [h5 (by omega)] at hx
          refine OneOk.pure q (x := .pointer (some ⟨r.blk, r.off + off + i * P.cellsOf el, none⟩)) ?_ ⟨r, hr, by rw [Nat.add_eq, Nat.mul_eq, Nat.add_assoc]⟩
          have hc : (0 : Int) ≤ Int.ofNat i ∧ Int.ofNat i < (len : Int) := ⟨Int.natCast_nonneg i, Int.ofNat_lt.2 (by omega)⟩
          unfold execOp; rw [ho]
          simp only [Instr.indexAt, hI, asIntOf, Sem.run_bind, Sem.run_pure, Result.andThen_ok, underlying_run hd, hx, if_pos hc, sizeOf_run (tk t _ hd), addr_add]
          rfl
        · cases hb
      · cases hb
    · cases hb
  · cases hv

theorem op_index {t : TypeId} {x ix : Operand} (tk : TypesOk P) (q : Pre P ρ h w) (e : ER ρ env a.tmps) (ho : o.op = .index t x ix) (hv : opS (.index t x ix) P env h = .one v h') : OneOk P ρ h w (execOp a.eval o) v h' := by
  have hx := eval_ok q e x
  have hi := eval_ok q e ix
  simp only [opS, indexX] at hv
  split at hv
  · cases hv
  · rename_i i hn
    obtain ⟨k, hI⟩ := natOf_some hn hi
    have hnn : (0 : Int) ≤ Int.ofNat i := Int.natCast_nonneg i
    split at hv
    · rename_i hd
      split at hv
      · rename_i s he
        rw [he] at hx
        split at hv
        · rename_i b hb
          cases hv
          refine OneOk.pure q (x := .int .u8 (.ofNat b.toNat)) ?_ rfl
          unfold execOp; rw [ho]
          have hg : (ByteArray.mk ⟨s⟩)[i]? = some b := by
            obtain ⟨hlt, heq⟩ := List.getElem?_eq_some_iff.1 hb
            have hlt' : i < (ByteArray.mk ⟨s⟩).size := hlt
            rw [getElem?_pos (ByteArray.mk ⟨s⟩) i hlt']
            exact congrArg some heq
          simp only [Instr.index, hI, asIntOf, Sem.run_bind, Sem.run_pure, Result.andThen_ok, underlying_run hd, show a.eval x = _ from hx, Int.ofNat_eq_natCast, Int.toNat_natCast, hg]
          rw [if_pos (Int.natCast_nonneg i)]
          rfl
        · cases hv
      · cases hv
    · rename_i n el hd
      split at hv
      · rename_i cs he
        rw [he] at hx
        obtain ⟨C, hx, hc⟩ := hx
        split at hv
        · rename_i hlt
          have hlt' : i + 1 ≤ n := ble_iff.1 hlt
          obtain ⟨hb, rfl⟩ := orB_one hv
          obtain ⟨y, hy, hr⟩ := partV_ok (w := w) hb hc
          have hcc : (0 : Int) ≤ Int.ofNat i ∧ Int.ofNat i < (n : Int) := ⟨hnn, Int.ofNat_lt.2 (by omega)⟩
          refine OneOk.pure q (x := y) ?_ hr
          unfold execOp; rw [ho]
          have hy' : (part el C ((Int.ofNat i).toNat * P.cellsOf el)).run P w = .ok y w := hy
          simp only [Instr.index, hI, asIntOf, Sem.run_bind, Sem.run_pure, Result.andThen_ok, underlying_run hd, hx, if_pos hcc, sizeOf_run (tk t _ hd), hy']
        · cases hv
      · cases hv
    · cases hv

/-! ### slices -/
def OR2 (ρ : Rho) (x : Option V) (X : Option Value) : Prop := match x, X with | none, none => True | some x, some X => VR ρ x X | _, _ => False

theorem bound_none {y d n : Nat} (hb : bound y none d = some n) : n = d := by
  simp [bound] at hb; exact hb.symm

theorem bound_some {y d n : Nat} {x : V} {X : Value} (hb : bound y (some x) d = some n) (hx : VR ρ x X) (code : BoundsCode) : (Instr.sliceBound X y code).run P w = .ok n w ∧ n ≤ y := by
  cases x with
  | int k z =>
    cases z with
    | ofNat m =>
      simp only [bound] at hb
      split at hb
      · rename_i hle
        cases hb
        have hle' : n ≤ y := ble_iff.1 hle
        refine ⟨?_, hle'⟩
        rw [show X = .int k (.ofNat n) from hx]
        have hc : (0 : Int) ≤ Int.ofNat n ∧ Int.ofNat n ≤ (y : Int) := ⟨Int.natCast_nonneg n, Int.ofNat_le.2 hle'⟩
        simp only [Instr.sliceBound, asIntOf, Sem.run_bind, Sem.run_pure, Result.andThen_ok, if_pos hc]
        rfl
      · cases hb
    | negSucc m => simp [bound] at hb
  | _ => simp [bound] at hb

theorem bound_some' {y Y d n : Nat} {x : V} {X : Value} (hb : bound y (some x) d = some n) (hx : VR ρ x X) (hy : y ≤ Y) (code : BoundsCode) : (Instr.sliceBound X Y code).run P w = .ok n w ∧ n ≤ y := by
  cases x with
  | int k z =>
    cases z with
    | ofNat m =>
      simp only [bound] at hb
      split at hb
      · rename_i hle
        cases hb
        have hle' : n ≤ y := ble_iff.1 hle
        refine ⟨?_, hle'⟩
        rw [show X = .int k (.ofNat n) from hx]
        have hc : (0 : Int) ≤ Int.ofNat n ∧ Int.ofNat n ≤ (Y : Int) := ⟨Int.natCast_nonneg n, Int.ofNat_le.2 (Nat.le_trans hle' hy)⟩
        simp only [Instr.sliceBound, asIntOf, Sem.run_bind, Sem.run_pure, Result.andThen_ok, if_pos hc]
        rfl
      · cases hb
    | negSucc m => simp [bound] at hb
  | _ => simp [bound] at hb

theorem bounds_ok {isS : Bool} {len cap C l hh m : Nat} {lo hi mx : Option V} {Lo Hi Mx : Option Value} (hb : bounds len cap lo hi mx = some (l, hh, m)) (h1 : OR2 ρ lo Lo) (h2 : OR2 ρ hi Hi) (h3 : OR2 ρ mx Mx)
    (hlc : len ≤ cap) (hC : cap ≤ C) : (Instr.sliceBounds isS len C Lo Hi Mx).run P w = .ok (l, hh, if mx.isSome then m else C) w ∧ l ≤ hh ∧ hh ≤ m ∧ m ≤ cap ∧ (mx = none → m = cap) := by
  unfold bounds at hb
  split at hb
  · cases hb
  rename_i hmx
  split at hb
  · cases hb
  · rename_i m' hm
    split at hb
    · cases hb
    · rename_i hh' hhi
      split at hb
      · cases hb
      · rename_i l' hl
        cases hb
        cases mx with
        | none =>
          cases Mx with
          | some _ => exact h3.elim
          | none =>
            have := bound_none hm; subst this
            cases hi with
            | none =>
              cases Hi with
              | some _ => exact h2.elim
              | none =>
                have := bound_none hhi; subst this
                cases lo with
                | none =>
                  cases Lo with
                  | some _ => exact h1.elim
                  | none => have := bound_none hl; subst this; exact ⟨by simp [Instr.sliceBounds], by omega, hlc, Nat.le_refl _, fun _ => rfl⟩
                | some lo =>
                  cases Lo with
                  | none => exact h1.elim
                  | some Lo =>
                    have b := bound_some (P := P) (w := w) hl h1 .sliceB
                    exact ⟨by simp [Instr.sliceBounds, b.1], b.2, hlc, Nat.le_refl _, fun _ => rfl⟩
            | some hi =>
              cases Hi with
              | none => exact h2.elim
              | some Hi =>
                have c := bound_some' (P := P) (w := w) hhi h2 hC (if isS = true then .sliceAcap else .sliceAlen)
                cases lo with
                | none =>
                  cases Lo with
                  | some _ => exact h1.elim
                  | none => have := bound_none hl; subst this; exact ⟨by simp [Instr.sliceBounds, c.1], by omega, c.2, Nat.le_refl _, fun _ => rfl⟩
                | some lo =>
                  cases Lo with
                  | none => exact h1.elim
                  | some Lo =>
                    have b := bound_some (P := P) (w := w) hl h1 .sliceB
                    exact ⟨by simp [Instr.sliceBounds, b.1, c.1], b.2, c.2, Nat.le_refl _, fun _ => rfl⟩
        | some mx =>
          cases Mx with
          | none => exact h3.elim
          | some Mx =>
            have d := bound_some' (P := P) (w := w) hm h3 hC (if isS = true then .slice3Acap else .slice3Alen)
            cases hi with
            | none => simp [isSome1] at hmx
            | some hi =>
              cases Hi with
              | none => exact h2.elim
              | some Hi =>
                have c := bound_some (P := P) (w := w) hhi h2 .slice3B
                cases lo with
                | none =>
                  cases Lo with
                  | some _ => exact h1.elim
                  | none => have := bound_none hl; subst this; exact ⟨by simp [Instr.sliceBounds, c.1, d.1], by omega, c.2, d.2, (fun k => by cases k)⟩
                | some lo =>
                  cases Lo with
                  | none => exact h1.elim
                  | some Lo =>
                    have b := bound_some (P := P) (w := w) hl h1 .slice3C
                    exact ⟨by simp [Instr.sliceBounds, b.1, c.1, d.1], b.2, c.2, d.2, (fun k => by cases k)⟩
end ops
end Sx

namespace Sx
open Go

section ops
variable {P : Program} {ρ : Rho} {h h' : H} {w : World} {env : Env} {a : Act} {o : Oper} {v : V}

theorem or2_map (q : Pre P ρ h w) (e : ER ρ env a.tmps) (x : Option Operand) : OR2 ρ (x.map fun x => eval x env) (x.map a.eval) := by
  cases x with
  | none => trivial
  | some x => exact eval_ok q e x

/-- the slice of an array's variables -/
theorem sliceArr_ok {n o' i : Nat} {elem : TypeId} {lo hi mx : Option V} {Lo Hi Mx : Option Value} {r : Ri} (hi' : (P.info? elem).isSome = true) (hv : sliceArr P n elem o' i lo hi mx = some v) (hr : ρ o' = some r)
    (h1 : OR2 ρ lo Lo) (h2 : OR2 ρ hi Hi) (h3 : OR2 ρ mx Mx) :
    ∃ x, (do let (l, h, m) ← Instr.sliceBounds false n n Lo Hi Mx; let size ← Go.sizeOf elem; pure (.slice (some (if m = l then ⟨r.blk, r.off + i, none⟩ else (⟨r.blk, r.off + i, none⟩ : Addr).add (l * size))) (h - l) (m - l)) : Sem Value).run P w = .ok x w ∧ VR ρ v x := by
  unfold sliceArr at hv
  split at hv
  · rename_i l hh m hb
    cases hv
    obtain ⟨b1, b2, b3, b4, b5⟩ := bounds_ok (P := P) (w := w) (isS := false) hb h1 h2 h3 (Nat.le_refl _) (Nat.le_refl _)
    have hm : (if mx.isSome = true then m else n) = m := by
      cases mx with
      | none => rw [b5 rfl]; rfl
      | some _ => rfl
    rw [hm] at b1
    refine ⟨.slice (some (if m = l then ⟨r.blk, r.off + i, none⟩ else (⟨r.blk, r.off + i, none⟩ : Addr).add (l * P.cellsOf elem))) (hh - l) (m - l), by simp only [Sem.run_bind, b1, Result.andThen_ok, sizeOf_run hi', Sem.run_pure], r, _, m - l, hr, rfl, Nat.le_refl _, Nat.sub_le_sub_right b3 l, fun _ => rfl, (fun k => by cases k), fun hne => ?_⟩
    have hml : ¬ m = l := by omega
    rw [if_neg hml, beq_false.2 hml, addr_add]
    simp [Nat.add_assoc]
  · cases hv

theorem sliceStr_ok {s : List UInt8} {lo hi mx : Option V} {Lo Hi Mx : Option Value} {t : TypeId} (hv : sliceStr s lo hi mx = some v) (h1 : OR2 ρ lo Lo) (h2 : OR2 ρ hi Hi) (h3 : OR2 ρ mx Mx) (ht : P.underlying t = some .string) :
    ∃ x, (Instr.slice t (.string ⟨⟨s⟩⟩) Lo Hi Mx).run P w = .ok x w ∧ VR ρ v x := by
  unfold sliceStr at hv
  split at hv
  · cases hv
  · cases Mx with
    | some _ => exact h3.elim
    | none =>
      split at hv
      · rename_i l hh m hb
        cases hv
        obtain ⟨b1, b2, b3, b4, b5⟩ := bounds_ok (P := P) (w := w) (isS := false) hb h1 h2 h3 (Nat.le_refl _) (Nat.le_refl _)
        have b1' : (Instr.sliceBounds false (ByteArray.mk ⟨s⟩).size (ByteArray.mk ⟨s⟩).size Lo Hi none).run P w = .ok (l, hh, s.length) w := b1
        refine ⟨.string ((ByteArray.mk ⟨s⟩).extract l hh), ?_, ?_⟩
        · simp only [Instr.slice, Sem.run_bind, underlying_run ht, Result.andThen_ok, Option.isSome_none, Bool.false_eq_true, if_false, Sem.run_pure, b1']
        · show Value.string _ = Value.string _
          congr 1
          apply ByteArray.ext
          rw [ByteArray.data_extract]
          apply Array.toList_inj.1
          rw [Array.toList_extract, List.extract_eq_take_drop, List.drop_take]
      · cases hv

theorem openO_some {elem : TypeId} {x : Option Obj} (hx : openO elem x = true) : ∃ t n dz m ro sib, x = some (.cells t n dz m true ro sib) ∧ t = elem := by
  unfold openO at hx
  split at hx
  · exact ⟨_, _, _, _, _, _, rfl, beq_iff.1 hx⟩
  · cases hx

theorem sliceX_ok {elem t : TypeId} {x : V} {X : Value} {lo hi mx : Option V} {Lo Hi Mx : Option Value} (hh : HR P ρ h w) (hi' : (P.info? elem).isSome = true) (hv : sliceX P h elem x lo hi mx = some v) (hx : VR ρ x X)
    (h1 : OR2 ρ lo Lo) (h2 : OR2 ρ hi Hi) (h3 : OR2 ρ mx Mx) (ht : P.underlying t = some (.slice elem)) :
    ∃ x, (Instr.slice t X Lo Hi Mx).run P w = .ok x w ∧ VR ρ v x := by
  unfold sliceX at hv
  split at hv
  · rw [show X = _ from hx]
    split at hv
    · rename_i b hb
      cases hv
      obtain ⟨l, hh', m⟩ := b
      obtain ⟨b1, b2, b3, b4, b5⟩ := bounds_ok (P := P) (w := w) (isS := true) hb h1 h2 h3 (Nat.le_refl _) (Nat.le_refl _)
      have hm : (if mx.isSome = true then m else 0) = 0 := by split <;> omega
      rw [hm] at b1
      have e1 : l = 0 := by omega
      have e2 : hh' = 0 := by omega
      subst e1; subst e2
      refine ⟨.slice none 0 0, ?_, rfl⟩
      simp only [Instr.slice, Sem.run_bind, underlying_run ht, Result.andThen_ok, b1, sizeOf_run hi', Sem.run_pure]
      rfl
    · cases hv
  · rename_i o' i len cap e
    obtain ⟨r, ad, c, hr, rfl, k1, k2, k3, k4, k5⟩ := hx
    unfold sliceSl at hv
    split at hv
    · rename_i l hh' m hb
      obtain ⟨b1, b2, b3, b4, b5⟩ := bounds_ok (P := P) (w := w) (isS := true) hb h1 h2 h3 k2 k1
      have run : ∀ M, (if mx.isSome = true then m else c) = M → (Instr.slice t (.slice (some ad) len c) Lo Hi Mx).run P w = .ok (.slice (if M = l then some ad else (some ad).map (·.add (l * P.cellsOf elem))) (hh' - l) (M - l)) w := by
        intro M hM
        rw [hM] at b1
        simp only [Instr.slice, Sem.run_bind, underlying_run ht, Result.andThen_ok, b1, sizeOf_run hi', Sem.run_pure]
      have key : ∀ M, (if mx.isSome = true then m else c) = M → m ≤ M → (M ≠ l → l ≤ M) → ∃ ad', (Instr.slice t (.slice (some ad) len c) Lo Hi Mx).run P w = .ok (.slice (some ad') (hh' - l) (M - l)) w ∧ (M - l ≠ 0 → c ≠ 0 → ad' = ⟨r.blk, r.off + (i + l * P.cellsOf elem), none⟩) := by
        intro M hM _ _
        rw [run M hM]
        by_cases hml : M = l
        · rw [if_pos hml]; exact ⟨ad, rfl, fun hne _ => absurd hml (by omega)⟩
        · rw [if_neg hml]
          refine ⟨ad.add (l * P.cellsOf elem), rfl, fun hne hc => ?_⟩
          rw [k5 hc, addr_add, Nat.add_assoc]
      split at hv
      · rename_i hmx
        have hmx' : mx.isSome = true := by cases mx <;> simp_all [isSome1]
        cases hv
        obtain ⟨ad', hrun, had⟩ := key m (by rw [if_pos hmx']) (Nat.le_refl _) (by omega)
        refine ⟨_, hrun, r, ad', m - l, hr, rfl, Nat.le_refl _, Nat.sub_le_sub_right b3 l, fun _ => rfl, (fun k => by cases k), fun hne => ?_⟩
        rw [had hne (by omega), beq_false.2 (show m ≠ l by omega)]
        rfl
      · rename_i hmx
        have hmx' : mx = none := by cases mx <;> simp_all [isSome1]
        subst hmx'
        have hmc := b5 rfl
        subst hmc
        split at hv
        · have hc := k3 rfl
          subst hc
          cases hv
          obtain ⟨ad', hrun, had⟩ := key c rfl (Nat.le_refl _) (by omega)
          refine ⟨_, hrun, r, ad', c - l, hr, rfl, Nat.le_refl _, Nat.sub_le_sub_right b3 l, fun _ => rfl, (fun k => by cases k), fun hne => ?_⟩
          rw [had hne (by omega), beq_false.2 (show c ≠ l by omega)]
          rfl
        · obtain ⟨ad', hrun, had⟩ := key c rfl k1 (by omega)
          split at hv
          · rename_i hop
            cases hv
            obtain ⟨t', n, dz, mm, ro, sib, hg, rfl⟩ := openO_some hop
            obtain ⟨r', hr', hor⟩ := hh.obj _ _ hg
            rw [hr] at hr'; cases hr'
            obtain ⟨_, _, _, _, _, _, _, hsz, _⟩ := hor
            have hsz := hsz rfl
            refine ⟨_, hrun, r, ad', c - l, hr, rfl, Nat.sub_le_sub_right k1 l, Nat.sub_le_sub_right b3 l, (fun k => by cases k), fun _ => ?_, fun hne => had hne (by omega)⟩
            have := k4 rfl
            rw [hsz] at this ⊢
            show i + l * P.cellsOf t' + (c - l) * P.cellsOf t' ≤ r.ext
            rw [Nat.add_assoc, ← Nat.add_mul, show l + (c - l) = c by omega]
            exact this
          · split at hv
            · cases hv
              simp only [Nat.sub_zero] at hrun had ⊢
              refine ⟨_, hrun, r, ad', c, hr, rfl, k1, b3, (fun k => by cases k), k4, fun hne => ?_⟩
              rw [had hne hne]; simp
            · cases hv
    · cases hv
  · cases hv

theorem op_slice {t : TypeId} {x : Operand} {lo hi mx : Option Operand} (tk : TypesOk P) (q : Pre P ρ h w) (e : ER ρ env a.tmps) (ho : o.op = .slice t x lo hi mx) (hv : opS (.slice t x lo hi mx) P env h = .one v h') : OneOk P ρ h w (execOp a.eval o) v h' := by
  have hx := eval_ok q e x
  have h1 := or2_map q e lo
  have h2 := or2_map q e hi
  have h3 := or2_map q e mx
  simp only [opS] at hv
  obtain ⟨hb, rfl⟩ := orB_one hv
  unfold sliceV at hb
  have fin : ∀ X, (Instr.sliceAt t (a.eval x) (lo.map a.eval) (hi.map a.eval) (mx.map a.eval)).run P w = .ok X w → VR ρ v X → OneOk P ρ h' w (execOp a.eval o) v h' := by
    intro X hX hr
    exact OneOk.pure q (by unfold execOp; rw [ho]; simp only [Sem.run_bind, hX, Result.andThen_ok, Sem.run_pure]) hr
  split at hb
  · rename_i n elem hd
    split at hb
    · rename_i o' i he
      rw [he] at hx
      obtain ⟨r, hr, hx⟩ := hx
      obtain ⟨X, hX, hvr⟩ := sliceArr_ok (w := w) (tk t _ hd) hb hr h1 h2 h3
      refine fin X ?_ hvr
      simp only [Instr.sliceAt, Sem.run_bind, underlying_run hd, Result.andThen_ok, hx, Instr.sureAddr, Sem.run_pure] at hX ⊢
      exact hX
    · cases hb
  · rename_i hd
    split at hb
    · rename_i s he
      rw [he] at hx
      obtain ⟨X, hX, hvr⟩ := sliceStr_ok (w := w) hb h1 h2 h3 hd
      refine fin X ?_ hvr
      simp only [Instr.sliceAt, Sem.run_bind, underlying_run hd, Result.andThen_ok, show a.eval x = _ from hx]
      exact hX
    · cases hb
  · rename_i elem hd
    obtain ⟨X, hX, hvr⟩ := sliceX_ok (w := w) q.hr (tk t _ hd) hb hx h1 h2 h3 hd
    refine fin X ?_ hvr
    simp only [Instr.sliceAt, Sem.run_bind, underlying_run hd, Result.andThen_ok]
    exact hX
  · rename_i arr hd
    split at hb
    · rename_i n elem hd2
      split at hb
      · rename_i o' i he
        rw [he] at hx
        obtain ⟨r, hr, hx⟩ := hx
        obtain ⟨X, hX, hvr⟩ := sliceArr_ok (w := w) (tk arr _ hd2) hb hr h1 h2 h3
        refine fin X ?_ hvr
        simp only [Instr.sliceAt, Instr.slice, Sem.run_bind, underlying_run hd, underlying_run hd2, Result.andThen_ok, hx, asAddr, Sem.run_pure] at hX ⊢
        exact hX
      · cases hb
    · cases hb
  · cases hb
end ops
end Sx

namespace Sx
open Go

section ops
variable {P : Program} {ρ : Rho} {h h' : H} {w : World} {env : Env} {a : Act} {o : Oper} {v : V}

theorem freeze_eq {b off n : Nat} {c : Array Value} {t : TypeId} {lo hi : Nat} (hb : w.heap[b]? = some (.cells c t (lo, hi))) (hn : n ≠ 0) :
    w.freeze ⟨b, off, none⟩ n = wput w b (.cells c t (if lo == hi then (off, off + n) else (min lo off, max hi (off + n)))) := by
  unfold World.freeze wput
  rw [if_neg hn]
  congr 1
  obtain ⟨hlt, he⟩ := Array.getElem?_eq_some_iff.1 hb
  apply Array.ext_getElem?
  intro i
  rw [Array.getElem?_modify, Array.getElem?_setIfInBounds]
  by_cases e : b = i
  · subst e; simp [hlt, he]
  · simp [e]

/-- a new row of cells, of which some past its end may be frozen -/
theorem Post.rowF (q : Pre P ρ h w) (t : TypeId) (n : Nat) (dz : List V) (m : T V) (cells : Array Value) (fr : Nat × Nat) (hsz : n ≤ cells.size)
    (hc : ∀ i, i < n → ∃ x, cells[i]? = some x ∧ VR ρ (cellAt dz m i) x) (hfr : cells.size ≤ fr.1) :
    Post P ρ h w (ρ.put h.next ⟨w.heap.size, 0, cells.size, P.cellsOf t⟩) (h.new (.cells t n dz m true false none)) { w with heap := w.heap.push (.cells cells t fr) } := by
  refine Post.new q _ _ _ _ rfl ⟨cells, fr, heap_push_self _ _, by simp, hsz, fun i hi => ?_, fun _ j _ hj => by omega, fun _ => rfl, (fun k => by cases k)⟩
  obtain ⟨x, hx, hr⟩ := hc i hi
  exact ⟨x, by simpa using hx, hr.mono (Rho.le_put (q.fresh _ (Nat.le_refl _)))⟩

theorem ofBytes_get (s : List UInt8) (i : Nat) (hi : i < s.length) : cellAt (ofBytes s) .leaf i = .int .u8 (.ofNat s[i].toNat) := by
  have hl : i < (ofBytes s).length := by simpa [ofBytes] using hi
  rw [cellAt_leaf_lt _ _ hl]
  simp [ofBytes]

theorem appendCap_cut (need old : Nat) (el : TypeId) (t : Nat) : need ≤ (Question.appendCap need old el).cut t := by
  simp only [Question.cut]; exact Nat.le_add_right _ _

theorem stringToBytes_ok {e : TypeId} {s : List UInt8} (q : Pre P ρ h w) (hc : P.cellsOf e = 1) :
    ∃ x w' ρ', (Conv.stringToBytes e ⟨⟨s⟩⟩).run P w = .ok x w' ∧ VR ρ' (.sl h.next1 0 s.length s.length true) x ∧ Post P ρ h w ρ' (newOpen h e (ofBytes s) none) w' := by
  have hlen : (ofBytes s).length = s.length := by simp [ofBytes]
  generalize hcap : (Question.appendCap s.length 0 e).cut (w.tape w.drawn (.appendCap s.length 0 e)) = cap
  have hle : s.length ≤ cap := hcap ▸ appendCap_cut _ _ _ _
  let cells : Array Value := ((ByteArray.mk ⟨s⟩).data.map fun b => Value.int .u8 b.toNat) ++ Array.replicate (cap - s.length) (.int .u8 0)
  have hsz : cells.size = cap := by simp [cells]; omega
  have hp := Post.rowF (q.drew (w.drawn + 1)) e s.length (ofBytes s) .leaf cells (cells.size, cells.size + 1) (by omega) (fun i hi => by
    refine ⟨.int .u8 s[i].toNat, ?_, ?_⟩
    · simp only [cells]
      rw [Array.getElem?_append, if_pos (by simpa using hi)]
      simp [hi]
    · rw [ofBytes_get s i hi]; rfl) (Nat.le_refl _)
  have hp' := Post.from_drew hp
  refine ⟨.slice (some ⟨w.heap.size, 0, none⟩) s.length cap, _, _, ?_, ⟨_, _, cap, Rho.put_self _ _ _, rfl, hle, Nat.le_refl _, (fun k => by cases k), fun _ => ?_, fun _ => rfl⟩, by unfold newOpen; rw [hlen]; exact hp'⟩
  · have hrun : (Conv.stringToBytes e ⟨⟨s⟩⟩).run P w = .ok (.slice (some ⟨w.heap.size, 0, none⟩) s.length cap) (World.freeze { w with drawn := w.drawn + 1, heap := w.heap.push (.cells cells e) } ⟨w.heap.size, cells.size, none⟩ 1) := by
      unfold Conv.stringToBytes
      simp only [Sem.run_bind, run_choose, Question.forced, Bool.false_eq_true, if_false, Result.andThen_ok]
      rw [show (ByteArray.mk ⟨s⟩).size = s.length from rfl, hcap]
      simp only [newRow, Sem.run_bind, run_newObj, Result.andThen_ok, Sem.run_pure, markStringish, run_shape]
      have hsh : World.shape? { w with drawn := w.drawn + 1, heap := w.heap.push (.cells cells e) } w.heap.size = some (e, cells.size) := by
        simp [World.shape?]
      rw [show (World.shape? { w with drawn := w.drawn + 1, heap := w.heap.push (.cells (((ByteArray.mk ⟨s⟩).data.map fun b => Value.int .u8 b.toNat) ++ Array.replicate (cap - s.length) (.int .u8 0)) e) } w.heap.size) = some (e, cells.size) from hsh]
      simp only [run_freeze, Result.andThen_ok]
      rfl
    rw [hrun, freeze_eq (heap_push_self _ _) (by omega)]
    congr 1
    have hpush : (w.heap.push (Go.Obj.cells cells e)).setIfInBounds w.heap.size (Go.Obj.cells cells e (cells.size, cells.size + 1)) = w.heap.push (Go.Obj.cells cells e (cells.size, cells.size + 1)) := by
      apply Array.ext_getElem?
      intro i
      rw [Array.getElem?_setIfInBounds, Array.getElem?_push, Array.getElem?_push]
      by_cases hi : w.heap.size = i
      · subst hi; simp
      · simp [hi, show ¬ i = w.heap.size from fun k => hi k.symm]
    simp [wput, hpush]
  · rw [hc]; show 0 + cap * 1 ≤ cells.size; omega

theorem bytesOf_ok : ∀ {vs : List V} {s : List UInt8} {xs : List Value}, bytesOf vs = some s → VRs ρ vs xs → ∃ ns : List Nat, xs = ns.map (fun n => Value.int .u8 (.ofNat n)) ∧ s = ns.map UInt8.ofNat
  | [], s, xs, hb, hx => by simp [bytesOf] at hb; subst hb; rw [show xs = [] from hx]; exact ⟨[], rfl, rfl⟩
  | v :: vs, s, xs, hb, hx => by
    obtain ⟨x, xs, rfl, h1, h2⟩ := hx
    simp only [bytesOf] at hb
    split at hb
    · rename_i b hb1
      split at hb
      · rename_i l hb2
        cases hb
        obtain ⟨ns, rfl, rfl⟩ := bytesOf_ok hb2 h2
        unfold byteOf at hb1
        split at hb1
        · split at hb1
          · split at hb1
            · rename_i n
              cases hb1
              exact ⟨n :: ns, by rw [show x = _ from h1]; rfl, rfl⟩
            · cases hb1
          · cases hb1
        · cases hb1
      · cases hb
    · cases hb

theorem cellsO_some {x : Option Obj} {i k : Nat} {vs : List V} (hc : cellsO x i k = some vs) : ∃ t nn dz m opn ro sib, x = some (.cells t nn dz m opn ro sib) ∧ i + k ≤ nn ∧ vs = cellsAt dz m i k := by
  unfold cellsO at hc
  split at hc
  · split at hc
    · rename_i hb
      cases hc
      exact ⟨_, _, _, _, _, _, _, rfl, ble_iff.1 hb, rfl⟩
    · cases hc
  · cases hc

/-- the cells that a slice's first elements are -/
theorem load_ok {o' i k : Nat} {vs : List V} {r : Ri} (hh : HR P ρ h w) (hr : ρ o' = some r) (hc : cellsO (h.get o') i k = some vs) :
    ∃ xs : List Value, xs.length = k ∧ VRs ρ vs xs ∧ (loadCells ⟨r.blk, r.off + i, none⟩ k).run P w = .ok xs.toArray w := by
  obtain ⟨t, nn, dz, m, opn, ro, sib, hg, hle, rfl⟩ := cellsO_some hc
  obtain ⟨r', hr', hor⟩ := hh.obj _ _ hg
  rw [hr] at hr'; cases hr'
  obtain ⟨xs, hl, hv, hcell⟩ := stretch hor i k hle
  refine ⟨xs, hl, hv, ?_⟩
  have := run_loadCells_list (P := P) w ⟨r.blk, r.off + i, none⟩ xs (fun j x hx => by rw [addr_add]; exact hcell j x hx)
  rw [hl] at this
  exact this

theorem foldl_push : ∀ (ns : List Nat) (acc : ByteArray), (ns.map Int.ofNat).foldl (fun r n => r.push (UInt8.ofNat n.toNat)) acc = ⟨⟨acc.data.toList ++ ns.map UInt8.ofNat⟩⟩
  | [], acc => by simp
  | n :: ns, acc => by
    simp only [List.map_cons, List.foldl_cons]
    rw [foldl_push ns]
    congr 2
    simp [ByteArray.push]

theorem bytesToString_ok {x : V} {X : Value} {e : TypeId} {h2 : H} (he : P.underlying e = some (.int .u8)) (q : Pre P ρ h w) (hv : convBS P h e x = some (v, h2)) (hx : VR ρ x X) :
    h2 = h ∧ ∃ y, (Conv.bytesToString X).run P w = .ok y w ∧ VR ρ v y ∧ (∃ a l c, X = .slice a l c) := by
  unfold convBS at hv
  split at hv
  · split at hv
    · cases hv
      rw [show X = _ from hx]
      exact ⟨rfl, .string .empty, rfl, rfl, none, 0, 0, rfl⟩
    · rename_i o' i len cap ee
      obtain ⟨r, ad, c, hr, rfl, k1, k2, k3, k4, k5⟩ := hx
      split at hv
      · rename_i vs hf
        split at hv
        · rename_i s hs
          cases hv
          refine ⟨rfl, .string ⟨⟨s⟩⟩, ?_, rfl, _, _, _, rfl⟩
          simp only [firstV, Nat.mul_eq, Nat.mul_one] at hf
          obtain ⟨xs, hl, hxs, hrun⟩ := load_ok q.hr hr hf
          obtain ⟨ns, rfl, rfl⟩ := bytesOf_ok hs hxs
          have hrun' : (loadCells ad len).run P w = .ok ((ns.map Int.ofNat).map (Value.int .u8)).toArray w := by
            by_cases hc : c = 0
            · have h0 : len = 0 := by omega
              subst h0
              have : ns = [] := by simpa using hl
              subst this
              rfl
            · rw [k5 hc, hrun]; simp
          rw [run_bytesToString w ad len c (ns.map Int.ofNat) hrun', foldl_push]
          rfl
        · cases hv
      · cases hv
    · cases hv
  · cases hv

theorem shape_of {b : Nat} {c : Array Value} {t : TypeId} {fr : Nat × Nat} (hb : w.heap[b]? = some (.cells c t fr)) : w.shape? b = some (t, c.size) := by
  simp [World.shape?, hb]

theorem seenAt_cells {b off : Nat} {c : Array Value} {t : TypeId} {fr : Nat × Nat} (hb : w.heap[b]? = some (.cells c t fr)) : (Conv.seenAt ⟨b, off, none⟩).run P w = .ok ⟨b, off, none⟩ w := by
  unfold Conv.seenAt
  simp [viewAt, shape_of hb]

theorem liesAt_whole {u : TypeId} {n : Nat} (h1 : 1 ≤ P.cellsOf u) (hn : P.cellsOf u ≤ n) : liesAt P P.depth u (n / P.cellsOf u) 0 u 1 = true := by
  have hd : P.depth = (2 * (P.types.size + Made.depth) + 1) + 1 := rfl
  rw [hd]
  simp only [liesAt, Bool.or_eq_true]
  left
  rw [hd]
  have h0 : P.cellsOf u ≠ 0 := by omega
  have hq : 1 ≤ n / P.cellsOf u := (Nat.one_le_div_iff (by omega)).2 hn
  simp [rowAt, h0, hq, sameLayout]

theorem rowAt_mono {T : TypeId → Bool} {e : TypeId} {c c' off n : Nat} (hc : c ≤ c') : ∀ d, rowAt P T d e c off n = true → rowAt P T d e c' off n = true
  | 0, h => by simp [rowAt] at h
  | d + 1, h => by
    by_cases hs : P.cellsOf e = 0
    · simp [rowAt, hs] at h
    · simp only [rowAt, hs, if_false, Bool.or_eq_true, Bool.and_eq_true, decide_eq_true_eq] at h ⊢
      rcases h with ⟨⟨h1, h2⟩, h3⟩ | ⟨h1, h2⟩
      · exact .inl ⟨⟨h1, Nat.le_trans h2 hc⟩, h3⟩
      · exact .inr ⟨Nat.lt_of_lt_of_le h1 hc, h2⟩
theorem liesAt_mono {e : TypeId} {c c' off : Nat} (hc : c ≤ c') : ∀ (d : Nat) (u : TypeId) (n : Nat), liesAt P d e c off u n = true → liesAt P d e c' off u n = true
  | 0, u, n, h => by simp [liesAt] at h
  | d + 1, u, n, h => by
    unfold liesAt at h ⊢
    simp only [Bool.or_eq_true] at h ⊢
    rcases h with h | h
    · exact .inl (rowAt_mono hc _ h)
    · right
      split at h
      · exact liesAt_mono hc d _ _ h
      · cases h

theorem op_convert {s d : TypeId} {x : Operand} (q : Pre P ρ h w) (e : ER ρ env a.tmps) (ho : o.op = .convert s d x) (hv : opS (.convert s d x) P env h = .one v h') : OneOk P ρ h w (execOp a.eval o) v h' := by
  have hx := eval_ok q e x
  simp only [opS] at hv
  have hb := orBH_one hv
  have fin : ∀ X w' ρ', (convert s d (a.eval x)).run P w = .ok X w' → VR ρ' v X → Post P ρ h w ρ' h' w' → OneOk P ρ h w (execOp a.eval o) v h' := by
    intro X w' ρ' hX hr hp
    exact ⟨X, w', ρ', .inl (by unfold execOp; rw [ho]; simp only [Sem.run_bind, hX, Result.andThen_ok, Sem.run_pure]), hr, hp⟩
  cases hs : P.underlying s with
  | none => rw [hs] at hb; simp [convV] at hb
  | some sd =>
    rw [hs] at hb
    unfold convV at hb
    simp only at hb
    split at hb
    · rename_i k hd
      split at hb
      · rename_i kk n he
        rw [he] at hx
        cases hb
        exact fin (.int k (k.wrap n)) w ρ (by simp [convert, run_underlying hs, run_underlying hd, show a.eval x = _ from hx, Conv.intToInt]) (by rw [wrapK_eq]; rfl) (Post.refl q)
      · cases hb
    · rename_i hd
      split at hb
      · rename_i str he
        rw [he] at hx
        cases hb
        exact fin (.string ⟨⟨str⟩⟩) w ρ (by simp [convert, run_underlying hs, run_underlying hd, show a.eval x = _ from hx]) rfl (Post.refl q)
      · rename_i hns
        split at hb
        · rename_i el hel
          cases hel
          have hel8 : P.underlying el = some (.int .u8) := by
            unfold convBS at hb
            split at hb
            · assumption
            · cases hb
          obtain ⟨rfl, y, hy, hvr, ad, l, c, hX⟩ := bytesToString_ok (w := w) hel8 q hb hx
          refine fin y w ρ ?_ hvr (Post.refl q)
          rw [hX] at hy ⊢
          rw [run_convert_bytes_string w s d el ad l c hs hel8 hd]
          exact hy
        · cases hb
    · rename_i el hd
      split at hb
      · rename_i str he
        rw [he] at hx
        unfold convSB at hb
        split at hb
        · rename_i hel8
          split at hb
          · rename_i hc1
            cases hb
            obtain ⟨X, w', ρ', hX, hvr, hp⟩ := stringToBytes_ok (s := str) q hc1
            refine fin X w' ρ' ?_ hvr hp
            simp only [convert, Sem.run_bind, underlying_run hs, underlying_run hd, underlying_run hel8, Result.andThen_ok, show a.eval x = _ from hx]
            exact hX
          · cases hb
        · cases hb
      · cases hb
    · rename_i hd
      split at hb
      · rename_i t hst
        cases hst
        unfold convOut at hb
        split at hb
        · rename_i he
          rw [he] at hx
          cases hb
          exact fin (.pointer none) w ρ (by simp [convert, Conv.unsafePointer, run_underlying hs, run_underlying hd, show a.eval x = _ from hx]) rfl (Post.refl q)
        · rename_i o' i he
          rw [he] at hx
          obtain ⟨r, hr, hx⟩ := hx
          split at hb
          · cases hb
          · rename_i n hn
            unfold convOutO at hb
            split at hb
            · rename_i t' nn dz m opn ro sib hg
              split at hb
              · rename_i hble
                cases hb
                obtain ⟨r', hr', hor⟩ := q.hr.obj _ _ hg
                rw [hr] at hr'; cases hr'
                obtain ⟨c, fr, e1, e2, e3, e4, _⟩ := hor
                have hlt : i + 1 ≤ nn := ble_iff.1 hble
                refine fin (.pointer (some ⟨r.blk, r.off + i, none⟩)) w ρ ?_ ⟨r, hr, rfl⟩ (Post.refl q)
                simp only [convert, Conv.unsafePointer, Sem.run_bind, underlying_run hs, underlying_run hd, Result.andThen_ok, hx, seenAt_cells e1, cellsIn, run_shape, shape_of e1, Sem.run_pure, cellsOf_run hn]
                have hoff : ¬ (r.off + i ≥ c.size) := by omega
                simp [hoff]
              · cases hb
            · cases hb
        · cases hb
      · rename_i hst
        cases hst
        unfold convUn at hb
        split at hb
        · rename_i o' i he
          rw [he] at hx
          obtain ⟨r, hr, hx⟩ := hx
          cases hb
          exact fin (.pointer (some ⟨r.blk, r.off + i, none⟩)) w ρ (by simp [convert, Conv.unsafePointer, run_underlying hs, run_underlying hd, hx]) ⟨r, hr, rfl⟩ (Post.refl q)
        · rename_i he
          rw [he] at hx
          cases hb
          exact fin (.pointer none) w ρ (by simp [convert, Conv.unsafePointer, run_underlying hs, run_underlying hd, show a.eval x = _ from hx]) rfl (Post.refl q)
        · cases hb
      · cases hb
    · rename_i u hd
      split at hb
      · rename_i hun
        have hsu : sd = .unsafePointer := by cases sd <;> simp [isUnsafeP] at hun ⊢
        subst hsu
        unfold convIn at hb
        split at hb
        · rename_i he
          rw [he] at hx
          cases hb
          exact fin (.pointer none) w ρ (by simp [convert, Conv.unsafePointer, run_underlying hs, run_underlying hd, show a.eval x = _ from hx]) rfl (Post.refl q)
        · rename_i o' i he
          rw [he] at hx
          obtain ⟨r, hr, hx⟩ := hx
          unfold convInO at hb
          split at hb
          · rename_i t' nn dz m opn ro sib hg
            split at hb
            · cases hb
            · split at hb
              · cases hb
              · rename_i hb1
                have hc1 : 1 ≤ P.cellsOf u := ble_iff.1 hb1
                obtain ⟨r', hr', hor⟩ := q.hr.obj _ _ hg
                rw [hr] at hr'; cases hr'
                obtain ⟨c, fr, e1, e2, e3, e4, e5, e6, e7⟩ := hor
                have hoff := e7 rfl
                have hsz : nn ≤ c.size := by omega
                obtain ⟨m', hm'⟩ : ∃ m, P.cellsOf u = m + 1 := ⟨P.cellsOf u - 1, by omega⟩
                have key : liesAt P P.depth t' (c.size / P.cellsOf t') i u 1 = true ∧ v = .ptr o' i ∧ h = h' := by
                  split at hb
                  · rename_i hwb
                    cases hb
                    unfold wholeB at hwb
                    split at hwb
                    · split at hwb
                      · rename_i htu
                        have htu : t' = u := beq_iff.1 htu
                        subst htu
                        have hc2 : P.cellsOf t' ≤ nn := ble_iff.1 hwb
                        exact ⟨liesAt_whole hc1 (by omega), rfl, rfl⟩
                      · cases hwb
                    · cases hwb
                  · split at hb
                    · rename_i hl
                      cases hb
                      exact ⟨liesAt_mono (Nat.div_le_div_right hsz) _ _ _ hl, rfl, rfl⟩
                    · cases hb
                obtain ⟨hlies, rfl, rfl⟩ := key
                refine fin (.pointer (some ⟨r.blk, r.off + i, none⟩)) w ρ ?_ ⟨r, hr, rfl⟩ (Post.refl q)
                simp only [convert, Conv.unsafePointer, Sem.run_bind, underlying_run hs, underlying_run hd, Result.andThen_ok, hx, seenAt_cells e1, cellsOf_run hm', variablesAt, run_program, run_shape, shape_of e1, Sem.run_pure, hoff, Nat.zero_add, hlies]
                simp
          · cases hb
        · cases hb
      · cases hb
    · cases hb

theorem op_typeAssert {x : Operand} {xt t : TypeId} {ok : Bool} (q : Pre P ρ h w) (e : ER ρ env a.tmps) (ho : o.op = .typeAssert x xt t ok) (hv : opS (.typeAssert x xt t ok) P env h = .one v h') : OneOk P ρ h w (execOp a.eval o) v h' := by
  have hx := eval_ok q e x
  simp only [opS] at hv
  obtain ⟨hb, rfl⟩ := orB_one hv
  unfold assertV at hb
  split at hb
  · cases hb
  · rename_i hi
    unfold isIface at hi
    split at hi
    · cases hi
    · cases hi
    · rename_i hne1 hne2
      cases hd : P.underlying t with
      | none => exact absurd hd hne2
      | some td =>
        have hni : ∀ ms, td ≠ .interface ms := fun ms e => hne1 ms (e ▸ hd)
        have zr : ∀ z, zeroV P t = some z → ∃ X, (zeroValue t).run P w = .ok X w ∧ VR ρ z X := by
          intro z hz
          obtain ⟨X, hX, rfl⟩ := zeroV_ok (w := w) hz
          exact ⟨X, hX, VR.of X⟩
        have fin : ∀ X, (Instr.typeAssert (a.eval x) xt t ok).run P w = .ok X w → VR ρ v X → OneOk P ρ h' w (execOp a.eval o) v h' := by
          intro X hX hr
          exact OneOk.pure q (by unfold execOp; rw [ho]; simp only [Sem.run_bind, hX, Result.andThen_ok, Sem.run_pure]) hr
        split at hb
        · rename_i he
          rw [he] at hx
          split at hb
          · split at hb
            · rename_i z hz
              cases hb
              obtain ⟨X, hX, hr⟩ := zr z hz
              refine fin (.tuple #[X, .bool false]) ?_ ⟨#[X, .bool false], rfl, ⟨_, _, rfl, hr, ⟨_, _, rfl, rfl, rfl⟩⟩⟩
              rw [show a.eval x = _ from hx]
              unfold Instr.typeAssert
              simp only [Sem.run_bind, underlying_run hd, Result.andThen_ok]
              cases td with
              | interface ms => exact absurd rfl (hni ms)
              | _ => simp [hX]
            · cases hb
          · cases hb
        · rename_i t' u he
          rw [he] at hx
          obtain ⟨y, hx, hr⟩ := hx
          have core : (Instr.typeAssert (a.eval x) xt t ok).run P w = (if t' = t then (pure (if ok then .tuple #[y, .bool true] else y) : Sem Value) else (if ok then do pure (.tuple #[← zeroValue t, .bool false]) else runtimePanic (.typeAssertion (some xt) (some t') t "") : Sem Value)).run P w := by
            rw [hx]
            unfold Instr.typeAssert
            simp only [Sem.run_bind, underlying_run hd, Result.andThen_ok]
          split at hb
          · rename_i ht
            have ht : t' = t := beq_iff.1 ht
            cases hb
            rw [if_pos ht] at core
            cases ok with
            | true => exact fin (.tuple #[y, .bool true]) (by rw [core]; rfl) ⟨#[y, .bool true], rfl, ⟨_, _, rfl, hr, ⟨_, _, rfl, rfl, rfl⟩⟩⟩
            | false => exact fin y (by rw [core]; rfl) hr
          · rename_i ht
            have ht : t' ≠ t := beq_false.1 ht
            rw [if_neg ht] at core
            split at hb
            · split at hb
              · rename_i z hz
                cases hb
                obtain ⟨X, hX, hrz⟩ := zr z hz
                refine fin (.tuple #[X, .bool false]) ?_ ⟨#[X, .bool false], rfl, ⟨_, _, rfl, hrz, ⟨_, _, rfl, rfl, rfl⟩⟩⟩
                rw [core]
                simp [hX]
              · cases hb
            · cases hb
        · cases hb
end ops
end Sx

namespace Sx
open Go Go.MapKept

section ops
variable {P : Program} {ρ : Rho} {h h' : H} {w : World} {env : Env} {a : Act} {o : Oper} {v : V}

/-! ### keys -/
mutual
theorem veq_true {ρ : Rho} : ∀ (k c : V) (K A : Value), veq k c = some true → VR ρ k K → VR ρ c A → K = A
  | .bool b, c, K, A, hv, hk, ha => by
    cases c <;> simp only [veq] at hv <;> first | (cases hv; done) | skip
    rename_i b'
    have := Option.some.inj hv
    rw [beqB_eq] at this
    rw [show K = _ from hk, show A = _ from ha, show b = b' from by simpa using this]
  | .int j n, c, K, A, hv, hk, ha => by
    cases c <;> simp only [veq] at hv <;> first | (cases hv; done) | skip
    rename_i j' n'
    split at hv
    · rename_i hj
      have hj := beqK_eq.1 hj
      have := Option.some.inj hv
      rw [beqI_eq] at this
      rw [show K = _ from hk, show A = _ from ha, hj, show n = n' from by simpa using this]
    · cases hv
  | .str s, c, K, A, hv, hk, ha => by
    cases c <;> simp only [veq] at hv <;> first | (cases hv; done) | skip
    rename_i s'
    have := Option.some.inj hv
    rw [beqS_eq] at this
    rw [show K = _ from hk, show A = _ from ha, show s = s' from by simpa using this]
  | .agg xs, c, K, A, hv, hk, ha => by
    cases c <;> simp only [veq] at hv <;> first | (cases hv; done) | skip
    rename_i ys
    obtain ⟨X, rfl, hX⟩ := hk
    obtain ⟨Y, rfl, hY⟩ := ha
    have := veqs_true xs ys X.toList Y.toList hv hX hY
    rw [show X = Y from Array.toList_inj.1 this]
  | .unk, c, K, A, hv, hk, ha => by cases c <;> simp [veq] at hv
  | .nilp, c, K, A, hv, hk, ha => by cases c <;> simp [veq] at hv
  | .ptr _ _, c, K, A, hv, hk, ha => by cases c <;> simp [veq] at hv
  | .nils, c, K, A, hv, hk, ha => by cases c <;> simp [veq] at hv
  | .sl .., c, K, A, hv, hk, ha => by cases c <;> simp [veq] at hv
  | .nilm, c, K, A, hv, hk, ha => by cases c <;> simp [veq] at hv
  | .map _, c, K, A, hv, hk, ha => by cases c <;> simp [veq] at hv
  | .fn .., c, K, A, hv, hk, ha => by cases c <;> simp [veq] at hv
  | .yld _, c, K, A, hv, hk, ha => by cases c <;> simp [veq] at hv
  | .nilf, c, K, A, hv, hk, ha => by cases c <;> simp [veq] at hv
  | .iface .., c, K, A, hv, hk, ha => by cases c <;> simp [veq] at hv
  | .nili, c, K, A, hv, hk, ha => by cases c <;> simp [veq] at hv
  | .tup _, c, K, A, hv, hk, ha => by cases c <;> simp [veq] at hv
theorem veqs_true {ρ : Rho} : ∀ (k c : List V) (K A : List Value), veqs k c = some true → VRs ρ k K → VRs ρ c A → K = A
  | [], [], K, A, hv, hk, ha => by rw [show K = [] from hk, show A = [] from ha]
  | [], _ :: _, K, A, hv, hk, ha => by simp [veqs] at hv
  | _ :: _, [], K, A, hv, hk, ha => by simp [veqs] at hv
  | x :: xs, y :: ys, K, A, hv, hk, ha => by
    obtain ⟨p, ps, rfl, h1, h2⟩ := hk
    obtain ⟨q, qs, rfl, h3, h4⟩ := ha
    simp only [veqs] at hv
    split at hv
    · rename_i he
      rw [veq_true x y p q he h1 h3, veqs_true xs ys ps qs hv h2 h4]
    · cases hv
    · cases hv
end

/-- the keys of plain data -/
inductive KeyF (P : Program) (t : TypeId) : TypeDesc → V → Prop where
  | bool (b) : KeyF P t .bool (.bool b)
  | int (q j n) : KeyF P t (.int q) (.int j n)
  | str (s) : KeyF P t .string (.str s)
  | arr (d n cs) : intArr P (some d) = some n → intsB cs n = true → KeyF P t d (.agg cs)
  | stru (d n cs) : structN P t (some d) = some n → intsB cs n = true → KeyF P t d (.agg cs)

theorem keyD_form {t : TypeId} {d : TypeDesc} {k : V} (hk : keyD P (some d) k = true) : KeyF P t d k := by
  unfold keyD at hk
  split at hk
  · rename_i hd; cases hd
    split at hk
    · exact .bool _
    · cases hk
  · rename_i hd; cases hd
    split at hk
    · exact .int _ _ _
    · cases hk
  · rename_i hd; cases hd
    split at hk
    · exact .str _
    · cases hk
  · unfold keyArr at hk
    split at hk
    · cases hk
    · rename_i n hn
      split at hk
      · exact .arr d n _ hn hk
      · cases hk

theorem keyArr_some {o : Option Nat} {k : V} (hk : keyArr o k = true) : ∃ n cs, o = some n ∧ k = .agg cs ∧ intsB cs n = true := by
  unfold keyArr at hk
  split at hk
  · cases hk
  · rename_i n
    split at hk
    · exact ⟨n, _, rfl, rfl, hk⟩
    · cases hk

theorem keyOk_form {kt : Option TypeId} {k : V} (hk : keyOk P kt k = true) : ∃ t d, kt = some t ∧ P.underlying t = some d ∧ KeyF P t d k := by
  unfold keyOk at hk
  split at hk
  · cases hk
  · rename_i t
    cases hd : P.underlying t with
    | none => rw [hd] at hk; simp [keyD, keyArr, intArr, structN] at hk
    | some d =>
      rw [hd] at hk
      refine ⟨t, d, rfl, hd, ?_⟩
      split at hk
      · rename_i h; exact keyD_form h
      · obtain ⟨n, cs, hn, rfl, hi⟩ := keyArr_some hk
        exact .stru d n cs hn hi

theorem sameBits_ints {d : Nat} : ∀ {cs : List V} {n : Nat} {X : List Value}, intsB cs n = true → VRs ρ cs X → (X.zip X).all (fun (x, y) => Instr.sameBits d x y) = true
  | [], n, X, _, hx => by rw [show X = [] from hx]; rfl
  | v :: vs, 0, X, hi, hx => by simp [intsB] at hi
  | v :: vs, n + 1, X, hi, hx => by
    simp only [intsB] at hi
    split at hi
    · obtain ⟨x, xs, rfl, h1, h2⟩ := hx
      rw [show x = _ from h1]
      have := sameBits_ints (d := d) hi h2
      simp only [List.zip_cons_cons, List.all_cons, this, Bool.and_true]
      simp [Instr.sameBits]
    · cases hi

theorem sameBits_key {t : TypeId} {d : TypeDesc} {k : V} {K : Value} (hk : KeyF P t d k) (hr : VR ρ k K) : Instr.sameBits 10000 K K = true := by
  cases hk with
  | bool b => rw [show K = _ from hr]; simp [Instr.sameBits]
  | int q j n => rw [show K = _ from hr]; simp [Instr.sameBits]
  | str s => rw [show K = _ from hr]; simp [Instr.sameBits, bytes_beq]
  | arr d n cs hn hi =>
    obtain ⟨X, rfl, hX⟩ := hr
    have := sameBits_ints (d := 9999) hi hX
    show (X.size == X.size && (X.toList.zip X.toList).all fun (x, y) => Instr.sameBits 9999 x y) = true
    rw [this]; simp
  | stru d n cs hn hi =>
    obtain ⟨X, rfl, hX⟩ := hr
    have := sameBits_ints (d := 9999) hi hX
    show (X.size == X.size && (X.toList.zip X.toList).all fun (x, y) => Instr.sameBits 9999 x y) = true
    rw [this]; simp

theorem keyStays {t : TypeId} {d : TypeDesc} {k : V} {K : Value} (hk : KeyF P t d k) (hr : VR ρ k K) : (Instr.keyThatStays K K).run P w = .ok K w := by
  simp [Instr.keyThatStays, sameBits_key hk hr]

theorem checkKey_ints {em : Bool} {e : TypeId} {k : IntKind} (hu : P.underlying e = some (.int k)) (hc : P.cellsOf e = 1) (n : Nat) {xs : Array Value} (hall : ∀ (i : Nat) (x : Value), xs[i]? = some x → ∃ q m, x = .int q m) :
    ∀ (m i : Nat), i + m ≤ xs.size → (forIn (List.range' i m) PUnit.unit (fun i (_ : PUnit) => do Instr.checkKey em (n + 1) e (← part e xs (i * (← Go.sizeOf e))); pure (ForInStep.yield PUnit.unit)) : Sem PUnit).run P w = .ok PUnit.unit w
  | 0, i, _ => by simp
  | m + 1, i, hm => by
    obtain ⟨x, hx⟩ : ∃ x, xs[i]? = some x := ⟨xs[i], by simp [show i < xs.size by omega]⟩
    obtain ⟨q, z, rfl⟩ := hall i x hx
    have hck : (Instr.checkKey em (n + 1) e (.int q z)).run P w = .ok () w := by simp [Instr.checkKey, run_underlying hu]
    simp only [List.range'_succ, List.forIn_cons, Sem.run_bind, cellsOf_run hc, Result.andThen_ok, Nat.zero_add, Nat.mul_one, part_int hu hx, hck, Sem.run_pure]
    exact checkKey_ints hu hc n hall m (i + 1) (by omega)

theorem checkKey_flds {em : Bool} (n : Nat) {xs : Array Value} (hall : ∀ (i : Nat) (x : Value), xs[i]? = some x → ∃ q m, x = .int q m) :
    ∀ (fs : List Field) (i : Nat), fldsI P fs i = true → i + fs.length ≤ xs.size → (forIn fs PUnit.unit (fun f (_ : PUnit) => if f.name ≠ "_" then (do Instr.checkKey em (n + 1) f.type (← part f.type xs f.offset); pure (ForInStep.yield PUnit.unit)) else pure (ForInStep.yield PUnit.unit)) : Sem PUnit).run P w = .ok PUnit.unit w
  | [], i, _, _ => by simp
  | f :: fs, i, hf, hm => by
    obtain ⟨f1, f2, ⟨q, f3⟩, f4, f5⟩ := fldsI_cons hf
    simp only [List.length_cons] at hm
    obtain ⟨x, hx⟩ : ∃ x, xs[i]? = some x := ⟨xs[i], by simp [show i < xs.size by omega]⟩
    obtain ⟨q', z, rfl⟩ := hall i x hx
    have hne : f.name ≠ "_" := by simpa using f1
    have hck : (Instr.checkKey em (n + 1) f.type (.int q' z)).run P w = .ok () w := by simp [Instr.checkKey, run_underlying f3]
    simp only [List.forIn_cons, Sem.run_bind, ne_eq, hne, not_false_eq_true, if_true, f2, part_int f3 hx, hck, Result.andThen_ok, Sem.run_pure]
    exact checkKey_flds n hall fs (i + 1) f5 (by omega)

theorem checkKey_ok {d : TypeDesc} {kt : TypeId} {k : V} {K : Value} (hd : P.underlying kt = some d) (hk : KeyF P kt d k) (hr : VR ρ k K) (em : Bool) : (Instr.checkKey em 10000 kt K).run P w = .ok () w := by
  cases hk with
  | bool b => rw [show K = _ from hr]; unfold Instr.checkKey; simp [run_underlying hd]
  | int q j n => rw [show K = _ from hr]; unfold Instr.checkKey; simp [run_underlying hd]
  | str s => rw [show K = _ from hr]; unfold Instr.checkKey; simp [run_underlying hd]
  | arr d n cs hn hi =>
    obtain ⟨X, rfl, hX⟩ := hr
    obtain ⟨e, q, he, hu, hc⟩ := intArr_some hn
    cases he
    obtain ⟨hl, hints⟩ := intsB_get hi
    have hxl := hX.length
    simp at hxl
    unfold Instr.checkKey
    simp only [Sem.run_bind, run_underlying hd, Result.andThen_ok]
    simp only [Std.Legacy.Range.forIn_eq_forIn_range', Std.Legacy.Range.size, Nat.sub_zero, Nat.add_one_sub_one, Nat.div_one]
    have hall : ∀ (i : Nat) (x : Value), X[i]? = some x → ∃ q m, x = .int q m := ?_
    · have key := checkKey_ints (w := w) (em := em) hu hc 9998 hall n 0 (by omega)
      simp only [Nat.reduceAdd] at key
      rw [key]; rfl
    intro i x hx
    have hlt : i < cs.length := by rw [← hxl]; exact (Array.getElem?_eq_some_iff.1 hx).1
    obtain ⟨j, z, hz⟩ := hints i cs[i] (List.getElem?_eq_getElem hlt)
    obtain ⟨y, hy, hyr⟩ := hX.get i cs[i] (List.getElem?_eq_getElem hlt)
    rw [Array.getElem?_toList, hx] at hy
    cases hy
    rw [hz] at hyr
    exact ⟨j, z, hyr⟩
  | stru d n cs hn hi =>
    obtain ⟨X, rfl, hX⟩ := hr
    obtain ⟨fs, he, hf, hp, hfl⟩ := structN_some hn
    cases he
    obtain ⟨hl, hints⟩ := intsB_get hi
    have hxl := hX.length
    simp at hxl
    have hall : ∀ (i : Nat) (x : Value), X[i]? = some x → ∃ q m, x = .int q m := by
      intro i x hx
      have hlt : i < cs.length := by rw [← hxl]; exact (Array.getElem?_eq_some_iff.1 hx).1
      obtain ⟨j, z, hz⟩ := hints i cs[i] (List.getElem?_eq_getElem hlt)
      obtain ⟨y, hy, hyr⟩ := hX.get i cs[i] (List.getElem?_eq_getElem hlt)
      rw [Array.getElem?_toList, hx] at hy
      cases hy
      rw [hz] at hyr
      exact ⟨j, z, hyr⟩
    unfold Instr.checkKey
    simp only [Sem.run_bind, run_underlying hd, Result.andThen_ok]
    rw [← Array.forIn_toList]
    have key := checkKey_flds (w := w) (em := em) 9998 hall fs.toList 0 hf (by omega)
    simp only [Nat.reduceAdd] at key
    rw [key]; rfl

/-! ### what is found -/
/-- a search over the entries, whichever way the model makes it -/
theorem find_ok {k : V} (S : Value → Bool → Prop) (G : List MapEntry → Nat → Option (Nat × Value) → Prop)
    (hs : ∀ (c : V) (A : Value) (b : Bool), veq k c = some b → VR ρ c A → S A b)
    (g0 : ∀ i, G [] i none) (g1 : ∀ x xs i, S x.key true → G (x :: xs) i (some (i, x.val))) (g2 : ∀ x xs i r, S x.key false → G xs (i + 1) r → G (x :: xs) i r) :
    ∀ (es : List E) (xs : List MapEntry) (i : Nat) (res : Option E), findE k es = some res → ErR ρ es xs →
    (res = none ∧ G xs i none ∧ delE k es = es) ∨
    ∃ j e x, res = some e ∧ G xs i (some (i + j, x.val)) ∧ es[j]? = some e ∧ xs[j]? = some x ∧ VR ρ e.v x.val ∧ x.born = e.b ∧ veq k e.k = some true ∧ VR ρ e.k x.key ∧
      (∀ v, updE k v es = es.set j ⟨k, v, e.b⟩) ∧ delE k es = es.eraseIdx j
  | [], xs, i, res, hf, hr => by
    simp [findE] at hf
    rw [show xs = [] from hr]
    exact .inl ⟨hf.symm, g0 i, rfl⟩
  | e :: es, xs, i, res, hf, hr => by
    obtain ⟨x, xs, rfl, h1, h2, h3, h4⟩ := hr
    simp only [findE] at hf
    split at hf
    · rename_i hv
      have hf := (Option.some.inj hf).symm
      exact .inr ⟨0, e, x, hf, g1 x xs i (hs _ _ _ hv h1), rfl, rfl, h2, h3, hv, h1, fun v => by simp [updE, hv], by simp [delE, hv]⟩
    · rename_i hv
      rcases find_ok S G hs g0 g1 g2 es xs (i + 1) res hf h4 with ⟨q1, q2, q3⟩ | ⟨j, e', x', q1, q2, q3, q4, q5, q6, q7, q8, q9, q10⟩
      · exact .inl ⟨q1, g2 x xs i _ (hs _ _ _ hv h1) q2, by simp [delE, hv, q3]⟩
      · refine .inr ⟨j + 1, e', x', q1, ?_, by simpa using q3, by simpa using q4, q5, q6, q7, q8, fun v => by simp [updE, hv, q9 v], by simp [delE, hv, q10]⟩
        have := g2 x xs i _ (hs _ _ _ hv h1) q2
        rwa [show i + 1 + j = i + (j + 1) by omega] at this
    · cases hf

theorem equal_arr {t : TypeId} {n : Nat} (hd : intArr P (P.underlying t) = some n) {vs us : List V} {xs ys : Array Value} {b : Bool} (hh : veqs vs us = some b) (h1 : intsB vs n = true)
    (hx : VRs ρ vs xs.toList) (hy : VRs ρ us ys.toList) : (Op.equal t (.agg xs) (.agg ys)).run P w = .ok b w := by
  obtain ⟨e, k, hu, he, hc⟩ := intArr_some hd
  obtain ⟨i, hi⟩ := info_of he
  obtain ⟨hl, hints⟩ := intsB_get h1
  have main : ∀ (vs us : List V) (i : Nat) (b : Bool), veqs vs us = some b → (∀ (j : Nat) (v : V), vs[j]? = some v → ∃ k z, v = .int k z) →
      VRs ρ vs (xs.toList.drop i) → VRs ρ us (ys.toList.drop i) → (Op.eqItems (9998 + 1) e 1 xs ys (List.range' i vs.length)).run P w = .ok b w := by
    intro vs
    induction vs with
    | nil =>
      intro us i b hh _ _ _
      cases us with
      | nil => simp [veqs] at hh; subst hh; simp [Op.eqItems]
      | cons => simp [veqs] at hh
    | cons v vs ih =>
      intro us i b hh hv hx hy
      cases us with
      | nil => simp [veqs] at hh
      | cons u us =>
        obtain ⟨j, z, rfl⟩ := hv 0 v rfl
        obtain ⟨x, hx1, hx2, hx3⟩ := hx.drop_cons
        obtain ⟨y, hy1, hy2, hy3⟩ := hy.drop_cons
        have hint : ∃ j' z', u = .int j' z' := by
          cases u <;> first | exact ⟨_, _, rfl⟩ | (simp [veqs, veq] at hh)
        obtain ⟨j', z', rfl⟩ := hint
        rw [show x = _ from hx2] at hx1
        rw [show y = _ from hy2] at hy1
        rw [Array.getElem?_toList] at hx1 hy1
        simp only [veqs, veq] at hh
        cases hk : beqK j j' with
        | false => simp [hk] at hh
        | true =>
          rw [beqK_eq] at hk; subst hk
          simp only [List.length_cons, List.range'_succ, Op.eqItems, Nat.mul_one, Sem.run_bind, part_int he hx1, part_int he hy1, Result.andThen_ok, equalIn_int he]
          rw [beqI_eq] at hh
          simp only [show beqK j j = true from beqK_eq.2 rfl] at hh
          cases hz : (z == z') with
          | false => simp [hz] at hh; subst hh; simp
          | true =>
            simp only [hz] at hh
            simp only [Bool.not_true, Bool.false_eq_true, if_false]
            exact ih us (i + 1) b hh (fun j v h => hv (j + 1) v (by simpa using h)) hx3 hy3
  rw [equal_eq, run_equalIn_array w (9998 + 1) xs ys hu hi, hc, List.range_eq_range', ← hl]
  exact main vs us 0 b hh hints (by simpa using hx) (by simpa using hy)

theorem findKey_ok {d : TypeDesc} {kt : TypeId} {k : V} {K : Value} (hd : P.underlying kt = some d) (hk : KeyF P kt d k) (hr : VR ρ k K) {es : List E} {xs : List MapEntry} {res : Option E} (hf : findE k es = some res) (he : ErR ρ es xs) :
    (res = none ∧ (Instr.findKey kt K xs).run P w = .ok none w ∧ delE k es = es) ∨
    ∃ j e x, res = some e ∧ (Instr.findKey kt K xs).run P w = .ok (some (j, x.val)) w ∧ es[j]? = some e ∧ xs[j]? = some x ∧ VR ρ e.v x.val ∧ x.born = e.b ∧ x.key = K ∧
      (∀ v, updE k v es = es.set j ⟨k, v, e.b⟩) ∧ delE k es = es.eraseIdx j := by
  have now : (∀ (c : V) (A : Value) (b : Bool), veq k c = some b → VR ρ c A → Instr.sameNow d K A = some b) →
      (res = none ∧ (Instr.findKey kt K xs).run P w = .ok none w ∧ delE k es = es) ∨
      ∃ j e x, res = some e ∧ (Instr.findKey kt K xs).run P w = .ok (some (j, x.val)) w ∧ es[j]? = some e ∧ xs[j]? = some x ∧ VR ρ e.v x.val ∧ x.born = e.b ∧ x.key = K ∧
        (∀ v, updE k v es = es.set j ⟨k, v, e.b⟩) ∧ delE k es = es.eraseIdx j := by
    intro hs
    rcases find_ok (fun A b => Instr.sameNow d K A = some b) (fun xs i r => Instr.findNow d K xs i = some r) hs (fun i => rfl) (fun x xs i q => by simp [Instr.findNow, q]) (fun x xs i r q q' => by simp [Instr.findNow, q, q']) es xs 0 res hf he with ⟨q1, q2, q3⟩ | ⟨j, e', x', q1, q2, q3, q4, q5, q6, q7, q8, q9, q10⟩
    · exact .inl ⟨q1, run_findKey hd q2, q3⟩
    · rw [Nat.zero_add] at q2
      exact .inr ⟨j, e', x', q1, run_findKey hd q2, q3, q4, q5, q6, (veq_true _ _ _ _ q7 hr q8).symm, q9, q10⟩
  cases hk with
  | bool b =>
    refine now fun c A b' hv ha => ?_
    cases c <;> simp [veq] at hv
    rw [show K = _ from hr, show A = _ from ha]
    simp only [Instr.sameNow, Option.some.injEq]
    rw [← hv, beqB_eq]
  | int q j n =>
    refine now fun c A b' hv ha => ?_
    cases c <;> simp only [veq] at hv <;> first | (cases hv; done) | skip
    rename_i j' n'
    split at hv
    · rename_i hj
      have hj := beqK_eq.1 hj
      subst hj
      rw [show K = _ from hr, show A = _ from ha]
      simp only [Instr.sameNow, if_true]
      rw [← hv, beqI_eq]
    · cases hv
  | str s =>
    refine now fun c A b' hv ha => ?_
    cases c <;> simp [veq] at hv
    rename_i s'
    rw [show K = _ from hr, show A = _ from ha]
    simp only [Instr.sameNow, Option.some.injEq]
    rw [← hv, beqS_eq]
    rw [Bool.eq_iff_iff, bytes_beq]
    simp
  | arr d n cs hn hi =>
    obtain ⟨X, rfl, hX⟩ := hr
    have hn' : intArr P (P.underlying kt) = some n := by rw [hd]; exact hn
    have hs : ∀ (c : V) (A : Value) (b : Bool), veq (.agg cs) c = some b → VR ρ c A → (Op.equal kt (.agg X) A).run P w = .ok b w := by
      intro c A b hv ha
      cases c <;> simp only [veq] at hv <;> first | (cases hv; done) | skip
      obtain ⟨Y, rfl, hY⟩ := ha
      exact equal_arr hn' hv hi hX hY
    obtain ⟨e, q, he', _, _⟩ := intArr_some hn
    have hwide : (match P.underlying kt with | some (.array _ _) | some (.struct _) => true | _ => false) = true := by
      rw [hd, he']
    rcases find_ok (fun A b => (Op.equal kt (.agg X) A).run P w = .ok b w) (fun xs i r => (Instr.findAsking kt (.agg X) xs i).run P w = .ok r w) hs (fun i => rfl)
        (fun x xs i q => by simp [Instr.findAsking, q]) (fun x xs i r q q' => by simp [Instr.findAsking, q, q']) es xs 0 res hf he with ⟨q1, q2, q3⟩ | ⟨j, e', x', q1, q2, q3, q4, q5, q6, q7, q8, q9, q10⟩
    · exact .inl ⟨q1, by rw [run_findKey_eq w hwide]; exact q2, q3⟩
    · rw [Nat.zero_add] at q2
      exact .inr ⟨j, e', x', q1, by rw [run_findKey_eq w hwide]; exact q2, q3, q4, q5, q6, (veq_true (ρ := ρ) _ _ _ _ q7 ⟨X, rfl, hX⟩ q8).symm, q9, q10⟩
  | stru d n cs hn hi =>
    obtain ⟨X, rfl, hX⟩ := hr
    have hn' : structN P kt (P.underlying kt) = some n := by rw [hd]; exact hn
    have hs : ∀ (c : V) (A : Value) (b : Bool), veq (.agg cs) c = some b → VR ρ c A → (Op.equal kt (.agg X) A).run P w = .ok b w := by
      intro c A b hv ha
      cases c <;> simp only [veq] at hv <;> first | (cases hv; done) | skip
      obtain ⟨Y, rfl, hY⟩ := ha
      exact equal_str hn' hv hi hX hY
    obtain ⟨fs, he', _, _, _⟩ := structN_some hn
    have hwide : (match P.underlying kt with | some (.array _ _) | some (.struct _) => true | _ => false) = true := by
      rw [hd, he']
    rcases find_ok (fun A b => (Op.equal kt (.agg X) A).run P w = .ok b w) (fun xs i r => (Instr.findAsking kt (.agg X) xs i).run P w = .ok r w) hs (fun i => rfl)
        (fun x xs i q => by simp [Instr.findAsking, q]) (fun x xs i r q q' => by simp [Instr.findAsking, q, q']) es xs 0 res hf he with ⟨q1, q2, q3⟩ | ⟨j, e', x', q1, q2, q3, q4, q5, q6, q7, q8, q9, q10⟩
    · exact .inl ⟨q1, by rw [run_findKey_eq w hwide]; exact q2, q3⟩
    · rw [Nat.zero_add] at q2
      exact .inr ⟨j, e', x', q1, by rw [run_findKey_eq w hwide]; exact q2, q3, q4, q5, q6, (veq_true (ρ := ρ) _ _ _ _ q7 ⟨X, rfl, hX⟩ q8).symm, q9, q10⟩

/-! ### rows of entries, one behind the other -/
theorem ErR.set {es : List E} {xs : List MapEntry} (hr : ErR ρ es xs) (j : Nat) {e : E} {y : MapEntry} (h1 : VR ρ e.k y.key) (h2 : VR ρ e.v y.val) (h3 : y.born = e.b) : ErR ρ (es.set j e) (xs.set j y) := by
  induction es generalizing xs j with
  | nil => rw [show xs = [] from hr]; exact rfl
  | cons e' es ih =>
    obtain ⟨x, xs, rfl, k1, k2, k3, k4⟩ := hr
    cases j with
    | zero => exact ⟨y, xs, rfl, h1, h2, h3, k4⟩
    | succ j => exact ⟨x, xs.set j y, rfl, k1, k2, k3, ih k4 j⟩
theorem ErR.erase {es : List E} {xs : List MapEntry} (hr : ErR ρ es xs) (j : Nat) : ErR ρ (es.eraseIdx j) (xs.eraseIdx j) := by
  induction es generalizing xs j with
  | nil => rw [show xs = [] from hr]; exact rfl
  | cons e' es ih =>
    obtain ⟨x, xs, rfl, k1, k2, k3, k4⟩ := hr
    cases j with
    | zero => exact k4
    | succ j => exact ⟨x, xs.eraseIdx j, rfl, k1, k2, k3, ih k4 j⟩
theorem ErR.push {es : List E} {xs : List MapEntry} (hr : ErR ρ es xs) {e : E} {y : MapEntry} (h1 : VR ρ e.k y.key) (h2 : VR ρ e.v y.val) (h3 : y.born = e.b) : ErR ρ (es ++ [e]) (xs ++ [y]) := by
  induction es generalizing xs with
  | nil => rw [show xs = [] from hr]; exact ⟨y, [], rfl, h1, h2, h3, rfl⟩
  | cons e' es ih =>
    obtain ⟨x, xs, rfl, k1, k2, k3, k4⟩ := hr
    exact ⟨x, xs ++ [y], rfl, k1, k2, k3, ih k4⟩
theorem ErR.length {es : List E} {xs : List MapEntry} (hr : ErR ρ es xs) : xs.length = es.length := by
  induction es generalizing xs with
  | nil => rw [show xs = [] from hr]; rfl
  | cons e' es ih =>
    obtain ⟨x, xs, rfl, k1, k2, k3, k4⟩ := hr
    simp [ih k4]

theorem modify_eq {α : Type} (arr : Array α) (j : Nat) (f : α → α) (x : α) (hx : arr[j]? = some x) : (arr.modify j f).toList = arr.toList.set j (f x) := by
  obtain ⟨hlt, he⟩ := Array.getElem?_eq_some_iff.1 hx
  apply List.ext_getElem?
  intro i
  rw [Array.getElem?_toList, Array.getElem?_modify, List.getElem?_set]
  by_cases e : j = i
  · subst e; simp [hlt, he]
  · simp [e]

theorem elemM_some {t e : TypeId} (he : elemM P t = some e) : ∃ k, P.underlying t = some (.map k e) := by
  unfold elemM at he
  split at he
  · rename_i hu; cases he; exact ⟨_, hu⟩
  · cases he
theorem keyM_some {t e : TypeId} (he : keyM P t = some e) : ∃ k, P.underlying t = some (.map e k) := by
  unfold keyM at he
  split at he
  · rename_i hu; cases he; exact ⟨_, hu⟩
  · cases he

theorem mapO_some {x : Option Obj} {es : List E} {c : Nat} (hm : mapO x = some (es, c)) : x = some (.map es c) := by
  unfold mapO at hm
  split at hm
  · cases hm; rfl
  · cases hm

/-- a map's block -/
theorem map_block {r0 : Nat} {r : Ri} {es : List E} {c : Nat} (hh : HR P ρ h w) (hr : ρ r0 = some r) (hm : mapO (h.get r0) = some (es, c)) : ∃ xs : Array MapEntry, w.heap[r.blk]? = some (.map xs c) ∧ ErR ρ es xs.toList := by
  obtain ⟨r', hr', hor⟩ := hh.obj _ _ (mapO_some hm)
  rw [hr] at hr'; cases hr'
  exact hor

theorem VR.withOk {ok b : Bool} {u : V} {x : Value} (hx : VR ρ u x) : VR ρ (Sx.withOk ok u b) (if ok = true then .tuple #[x, .bool b] else x) := by
  cases ok with
  | true => exact ⟨#[x, .bool b], rfl, _, _, rfl, hx, _, _, rfl, rfl, rfl⟩
  | false => exact hx

theorem op_lookup {t : TypeId} {x k : Operand} {ok : Bool} (q : Pre P ρ h w) (e : ER ρ env a.tmps) (ho : o.op = .lookup t x k ok) (hv : opS (.lookup t x k ok) P env h = .one v h') : OneOk P ρ h w (execOp a.eval o) v h' := by
  have hx := eval_ok q e x
  have hk := eval_ok q e k
  simp only [opS] at hv
  obtain ⟨hb, rfl⟩ := orB_one hv
  unfold lookupV at hb
  split at hb
  · cases hb
  · rename_i el hel
    obtain ⟨kt, hm⟩ := elemM_some hel
    split at hb
    · cases hb
    · rename_i hkey
      obtain ⟨kt', d, hkt, hd, hkf⟩ := keyOk_form hkey
      have : kt' = kt := by unfold keyM at hkt; rw [hm] at hkt; exact (Option.some.inj hkt).symm
      subst this
      split at hb
      · cases hb
      · rename_i es hes
        have hX : ∃ xs : Array MapEntry, ErR ρ es xs.toList ∧ ((a.eval x = .map none ∧ xs = #[]) ∨ ∃ b c, a.eval x = .map (some b) ∧ w.heap[b]? = some (.map xs c)) := by
          unfold entriesV at hes
          split at hes
          · rename_i he
            rw [he] at hx
            cases hes
            exact ⟨#[], rfl, .inl ⟨hx, rfl⟩⟩
          · rename_i r0 he
            rw [he] at hx
            obtain ⟨r, hr, hx⟩ := hx
            split at hes
            · rename_i es' c hmo
              cases hes
              obtain ⟨xs, hb, her⟩ := map_block q.hr hr hmo
              exact ⟨xs, her, .inr ⟨_, _, hx, hb⟩⟩
            · cases hes
          · cases hes
        obtain ⟨xs, her, hX⟩ := hX
        have hrun : ∀ R, (Instr.findKey kt' (a.eval k) xs.toList).run P w = .ok R w → ∀ z, (R = none → (zeroValue el).run P w = .ok z w) →
            (Instr.lookup t (a.eval x) (a.eval k) ok).run P w = .ok (match R with | some (_, v) => (if ok = true then .tuple #[v, .bool true] else v) | none => (if ok = true then .tuple #[z, .bool false] else z)) w := by
          intro R hR z hz
          rcases hX with ⟨hX, rfl⟩ | ⟨b, c, hX, hb⟩
          · rw [hX]
            simp only [Instr.lookup, Sem.run_bind, run_underlying hm, Result.andThen_ok, Sem.run_pure, checkKey_ok hd hkf hk, hR]
            cases R with
            | none => simp [hz rfl]
            | some r => rfl
          · rw [hX]
            simp only [Instr.lookup, Sem.run_bind, run_underlying hm, Result.andThen_ok, Sem.run_pure, run_getObj_map hb, checkKey_ok hd hkf hk, hR]
            cases R with
            | none => simp [hz rfl]
            | some r => rfl
        have fin : ∀ X, (Instr.lookup t (a.eval x) (a.eval k) ok).run P w = .ok X w → VR ρ v X → OneOk P ρ h' w (execOp a.eval o) v h' := by
          intro X hX hr
          exact OneOk.pure q (by unfold execOp; rw [ho]; simp only [Sem.run_bind, hX, Result.andThen_ok, Sem.run_pure]) hr
        unfold lookupF at hb
        split at hb
        · cases hb
        · rename_i en hf
          cases hb
          rcases findKey_ok (w := w) hd hkf hk hf her with ⟨q1, _⟩ | ⟨j, e', x', q1, q2, q3, q4, q5, _⟩
          · cases q1
          · cases q1
            refine fin (if ok = true then .tuple #[x'.val, .bool true] else x'.val) ?_ (VR.withOk q5)
            exact hrun _ q2 (.tuple #[]) (fun k => by cases k)
        · rename_i hf
          split at hb
          · rename_i z hz
            cases hb
            obtain ⟨X, hX, rfl⟩ := zeroV_ok (w := w) hz
            rcases findKey_ok (w := w) hd hkf hk hf her with ⟨_, q2, _⟩ | ⟨j, e', x', q1, _⟩
            · refine fin (if ok = true then .tuple #[X, .bool false] else X) ?_ (VR.withOk (VR.of X))
              exact hrun _ q2 X (fun _ => hX)
            · cases q1
          · cases hb
end ops
end Sx

namespace Sx
open Go Go.MapKept

section ops
variable {P : Program} {ρ : Rho} {h h' : H} {w : World} {env : Env} {a : Act} {o : Oper} {v : V}

/-- a map's entries turn -/
theorem map_write (q : Pre P ρ h w) {r0 : Nat} {r : Ri} {es : List E} {c : Nat} (hr : ρ r0 = some r) (hm : mapO (h.get r0) = some (es, c)) (hmay : h.may r0 = true) (es' : List E) (c' : Nat) (xs' : Array MapEntry) (he : ErR ρ es' xs'.toList) :
    Post P ρ h w ρ (h.set r0 (.map es' c')) (wput w r.blk (.map xs' c')) := by
  obtain ⟨xs, hb, _⟩ := map_block q.hr hr hm
  exact Post.turn q (mapO_some hm) hr hmay rfl (.map es' c') rfl ⟨xs', wput_same _ _ _ (lt_of_get hb), he⟩ rfl rfl rfl (wput_size _ _ _) (fun b hb => wput_other _ _ _ _ hb)

theorem run_setMap {b : Nat} {xs : Array MapEntry} {c : Nat} (o : Go.Obj) (hb : w.heap[b]? = some (.map xs c)) : (setObj b o).run P w = .ok () (wput w b o) := run_setObj_map o hb

theorem mapUpdate_ok {t : TypeId} {m k x : V} {M K X : Value} (q : Pre P ρ h w) (hm : VR ρ m M) (hk : VR ρ k K) (hx : VR ρ x X) (hv : updV P t h m k x = some h') :
    ∃ w', (Instr.mapUpdate t M K X).run P w = .ok () w' ∧ Post P ρ h w ρ h' w' := by
  unfold updV at hv
  split at hv
  · cases hv
  · rename_i hkey
    obtain ⟨kt, d, hkt, hd, hkf⟩ := keyOk_form hkey
    obtain ⟨el, hmt⟩ := keyM_some hkt
    split at hv
    · rename_i r0
      obtain ⟨r, hr, rfl⟩ := hm
      unfold updM at hv
      split at hv
      · cases hv
      · rename_i es c hmo
        obtain ⟨xs, hb, her⟩ := map_block q.hr hr hmo
        split at hv
        · cases hv
        · rename_i hmay
          split at hv
          · cases hv
          · rename_i en hf
            cases hv
            rcases findKey_ok (w := w) hd hkf hk hf her with ⟨q1, _⟩ | ⟨j, e', x', q1, q2, q3, q4, q5, q6, q7, q8, _⟩
            · cases q1
            · cases q1
              have q4' : xs[j]? = some x' := by rw [← Array.getElem?_toList]; exact q4
              refine ⟨_, ?_, map_write q hr hmo hmay _ _ (xs.modify j fun e => { e with key := K, val := X }) ?_⟩
              · simp only [Instr.mapUpdate, Sem.run_bind, run_underlying hmt, Result.andThen_ok, run_getObj_map hb, checkKey_ok hd hkf hk, q2, q4', Option.map_some, Option.getD_some, q7, keyStays hkf hk, run_setMap _ hb]
              · rw [q8, modify_eq _ _ _ _ q4']
                exact her.set j hk hx q6
          · rename_i hf
            cases hv
            rcases findKey_ok (w := w) hd hkf hk hf her with ⟨_, q2, _⟩ | ⟨j, e', x', q1, _⟩
            · refine ⟨_, ?_, map_write q hr hmo hmay _ _ (xs.push { key := K, val := X, born := c }) ?_⟩
              · simp only [Instr.mapUpdate, Sem.run_bind, run_underlying hmt, Result.andThen_ok, run_getObj_map hb, checkKey_ok hd hkf hk, q2, run_setMap _ hb]
              · rw [Array.toList_push]
                exact her.push hk hx rfl
            · cases q1
    · cases hv

theorem op_mapUpdate {t : TypeId} {m k x : Operand} (q : Pre P ρ h w) (e : ER ρ env a.tmps) (ho : o.op = .mapUpdate t m k x) (hv : opS (.mapUpdate t m k x) P env h = .one v h') : OneOk P ρ h w (execOp a.eval o) v h' := by
  simp only [opS] at hv
  obtain ⟨hb, rfl⟩ := orU_one hv
  obtain ⟨w', hrun, hp⟩ := mapUpdate_ok q (eval_ok q e m) (eval_ok q e k) (eval_ok q e x) hb
  exact ⟨undef, w', ρ, .inr ⟨by unfold execOp; rw [ho]; simp only [Sem.run_bind, hrun, Result.andThen_ok, Sem.run_pure], rfl⟩, VR.undef ρ, hp⟩

theorem op_insert {t : TypeId} {m k x : Operand} (q : Pre P ρ h w) (e : ER ρ env a.tmps) (ho : o.op = .insert t m k x) (hv : opS (.insert t m k x) P env h = .one v h') : OneOk P ρ h w (execOp a.eval o) v h' := by
  simp only [opS] at hv
  obtain ⟨hb, rfl⟩ := orU_one hv
  obtain ⟨w', hrun, hp⟩ := mapUpdate_ok q (eval_ok q e m) (eval_ok q e k) (eval_ok q e x) hb
  exact ⟨undef, w', ρ, .inr ⟨by unfold execOp; rw [ho]; simp only [Sem.run_bind, hrun, Result.andThen_ok, Sem.run_pure], rfl⟩, VR.undef ρ, hp⟩

theorem op_mapEntry {t : TypeId} {m k : Operand} (q : Pre P ρ h w) (e : ER ρ env a.tmps) (ho : o.op = .mapEntry t m k) (hv : opS (.mapEntry t m k) P env h = .one v h') : OneOk P ρ h w (execOp a.eval o) v h' := by
  have hm := eval_ok q e m
  have hk := eval_ok q e k
  simp only [opS] at hv
  have fin : ∀ X w' , (Instr.mapEntry t (a.eval m) (a.eval k)).run P w = .ok X w' → VR ρ v X → Post P ρ h w ρ h' w' → OneOk P ρ h w (execOp a.eval o) v h' := by
    intro X w' hX hr hp
    exact ⟨X, w', ρ, .inl (by unfold execOp; rw [ho]; simp only [Sem.run_bind, hX, Result.andThen_ok, Sem.run_pure]), hr, hp⟩
  unfold mapEntryV at hv
  split at hv
  · cases hv
  · rename_i hkey
    obtain ⟨kt, d, hkt, hd, hkf⟩ := keyOk_form hkey
    split at hv
    · cases hv
    · rename_i el hel
      obtain ⟨kt', hmt⟩ := elemM_some hel
      have : kt = kt' := by unfold keyM at hkt; rw [hmt] at hkt; exact (Option.some.inj hkt).symm
      subst this
      split at hv
      · rename_i r0 he
        rw [he] at hm
        obtain ⟨r, hr, hM⟩ := hm
        unfold mapEntryM at hv
        split at hv
        · cases hv
        · rename_i es c hmo
          obtain ⟨xs, hb, her⟩ := map_block q.hr hr hmo
          split at hv
          · cases hv
          · rename_i hmay
            split at hv
            · cases hv
            · rename_i en hf
              cases hv
              rcases findKey_ok (w := w) hd hkf hk hf her with ⟨q1, _⟩ | ⟨j, e', x', q1, q2, q3, q4, q5, q6, q7, q8, _⟩
              · cases q1
              · cases q1
                have q4' : xs[j]? = some x' := by rw [← Array.getElem?_toList]; exact q4
                refine fin (.tuple #[x'.val, goInt x'.born]) _ ?_ ⟨#[x'.val, goInt x'.born], rfl, ⟨_, _, rfl, q5, _, _, rfl, by rw [q6]; rfl, rfl⟩⟩ (map_write q hr hmo hmay _ _ (xs.modify j fun e => { e with key := a.eval k }) ?_)
                · rw [hM]
                  simp only [Instr.mapEntry, Sem.run_bind, run_underlying hmt, Result.andThen_ok, run_getObj_map hb, checkKey_ok hd hkf hk, q2, q4', Option.map_some, Option.getD_some, q7, keyStays hkf hk, run_setMap _ hb, Sem.run_pure]
                · rw [q8, modify_eq _ _ _ _ q4']
                  exact her.set j hk q5 q6
            · rename_i hf
              split at hv
              · rename_i z hz
                cases hv
                obtain ⟨Z, hZ, rfl⟩ := zeroV_ok (w := w) hz
                rcases findKey_ok (w := w) hd hkf hk hf her with ⟨_, q2, _⟩ | ⟨j, e', x', q1, _⟩
                · refine fin (.tuple #[Z, goInt c]) _ ?_ ⟨#[Z, goInt c], rfl, ⟨_, _, rfl, VR.of Z, _, _, rfl, rfl, rfl⟩⟩ (map_write q hr hmo hmay _ _ (xs.push { key := a.eval k, val := Z, born := c }) ?_)
                  · rw [hM]
                    simp only [Instr.mapEntry, Sem.run_bind, run_underlying hmt, Result.andThen_ok, run_getObj_map hb, checkKey_ok hd hkf hk, q2, hZ, run_setMap _ hb, Sem.run_pure]
                  · rw [Array.toList_push]
                    exact her.push hk (VR.of Z) rfl
                · cases q1
              · cases hv
      · cases hv

/-! ### entries by their stamp -/
theorem findB_ok {n : Nat} : ∀ {es : List E} {xs : List MapEntry} {e : E}, findB n es = some e → ErR ρ es xs →
    ∃ j x, es[j]? = some e ∧ xs[j]? = some x ∧ VR ρ e.k x.key ∧ VR ρ e.v x.val ∧ x.born = e.b ∧ e.b = n ∧ xs.findIdx? (fun e => (e.born : Int) == (n : Int)) = some j ∧ xs.find? (fun e => e.born == n) = some x ∧
      (∀ u, updB n u es = es.set j ⟨e.k, u, e.b⟩)
  | [], xs, e, hf, _ => by simp [findB] at hf
  | ⟨ak, av, m⟩ :: es, xs, e, hf, hr => by
    obtain ⟨x, xs, rfl, h1, h2, h3, h4⟩ := hr
    simp only at h3
    simp only [findB] at hf
    split at hf
    · rename_i hb
      have hb' := beq_iff.1 hb
      cases hf
      refine ⟨0, x, rfl, rfl, h1, h2, h3, hb', ?_, ?_, fun u => by simp [updB, hb]⟩
      · simp [List.findIdx?_cons, h3, hb']
      · simp [h3, hb']
    · rename_i hb
      have hb' := beq_false.1 hb
      obtain ⟨j, x', k1, k2, k3, k4, k5, k6, k7, k8, k9⟩ := findB_ok hf h4
      refine ⟨j + 1, x', by simpa using k1, by simpa using k2, k3, k4, k5, k6, ?_, ?_, fun u => by simp [updB, hb, k9 u]⟩
      · have : ¬ ((x.born : Int) == (n : Int)) = true := by rw [h3]; simp; exact fun q => hb' (Int.ofNat.inj q)
        simp [List.findIdx?_cons, this, k7]
      · have : ¬ (x.born == n) = true := by rw [h3]; simpa using hb'
        simp [this, k8]

theorem op_entryStore {t : TypeId} {m s x : Operand} (q : Pre P ρ h w) (e : ER ρ env a.tmps) (ho : o.op = .entryStore t m s x) (hv : opS (.entryStore t m s x) P env h = .one v h') : OneOk P ρ h w (execOp a.eval o) v h' := by
  have hm := eval_ok q e m
  have hs := eval_ok q e s
  have hx := eval_ok q e x
  simp only [opS] at hv
  unfold entryStoreV at hv
  split at hv
  · rename_i r0 he
    rw [he] at hm
    obtain ⟨r, hr, hM⟩ := hm
    split at hv
    · rename_i n hn
      obtain ⟨ks, hS⟩ := natOf_some hn hs
      unfold entryStoreM at hv
      split at hv
      · cases hv
      · rename_i es c hmo
        obtain ⟨xs, hb, her⟩ := map_block q.hr hr hmo
        split at hv
        · cases hv
        · rename_i hmay
          split at hv
          · rename_i en hf
            cases hv
            obtain ⟨j, x', k1, k2, k3, k4, k5, k6, k7, k8, k9⟩ := findB_ok hf her
            have k2' : xs[j]? = some x' := by rw [← Array.getElem?_toList]; exact k2
            have k7' : xs.findIdx? (fun e => (e.born : Int) == Int.ofNat n) = some j := by
              rw [← List.findIdx?_toArray] at k7
              simpa using k7
            refine ⟨undef, _, ρ, .inr ⟨?_, rfl⟩, VR.undef ρ, map_write q hr hmo hmay _ _ (xs.modify j fun e => { e with val := a.eval x }) ?_⟩
            · unfold execOp; rw [ho]
              simp only [hM, hS, Instr.entryStore, Sem.run_bind, run_getObj_map hb, Result.andThen_ok, asInt, asIntOf, Sem.run_pure, k7', run_setMap _ hb]
            · rw [k9, modify_eq _ _ _ _ k2']
              exact her.set j k3 hx k5
          · cases hv
    · cases hv
  · cases hv

theorem op_range {t : TypeId} {x : Operand} (q : Pre P ρ h w) (e : ER ρ env a.tmps) (ho : o.op = .range t x) (hv : opS (.range t x) P env h = .one v h') : OneOk P ρ h w (execOp a.eval o) v h' := by
  have hx := eval_ok q e x
  simp only [opS] at hv
  unfold rangeV at hv
  split at hv
  · rename_i s he
    rw [he] at hx
    split at hv
    · rename_i hd
      cases hv
      refine ⟨.pointer (some ⟨w.heap.size, 0, none⟩), _, _, .inl ?_, ⟨_, Rho.put_self _ _ _, rfl⟩, Post.new q (.striter s 0) (.stringIter ⟨⟨s⟩⟩ 0) 0 0 rfl ⟨heap_push_self _ _, rfl⟩⟩
      unfold execOp; rw [ho]
      simp only [Instr.range, Sem.run_bind, run_underlying hd, Result.andThen_ok, show a.eval x = _ from hx, Sem.run_pure, run_newObj]
    · cases hv
  · rename_i he
    rw [he] at hx
    split at hv
    · rename_i hd
      cases hv
      refine ⟨.pointer (some ⟨w.heap.size, 0, none⟩), _, _, .inl ?_, ⟨_, Rho.put_self _ _ _, rfl⟩, Post.new q .iterNil (.mapIter none 0 #[] 0) 0 0 rfl ⟨heap_push_self _ _, rfl⟩⟩
      unfold execOp; rw [ho]
      simp only [Instr.range, Sem.run_bind, run_underlying hd, Result.andThen_ok, show a.eval x = _ from hx, Sem.run_pure, run_newObj]
    · cases hv
  · rename_i r0 he
    rw [he] at hx
    obtain ⟨r, hr, hM⟩ := hx
    split at hv
    · rename_i hd
      split at hv
      · rename_i es c hmo
        cases hv
        obtain ⟨xs, hb, her⟩ := map_block q.hr hr hmo
        refine ⟨.pointer (some ⟨w.heap.size, 0, none⟩), _, _, .inl ?_, ⟨_, Rho.put_self _ _ _, rfl⟩, Post.new q (.iter r0 c [] c) (.mapIter (some r.blk) c #[] c) 0 0 rfl ⟨r, Rho.le_put (q.fresh _ (Nat.le_refl _)) _ _ hr, heap_push_self _ _, rfl⟩⟩
        unfold execOp; rw [ho]
        simp only [Instr.range, Sem.run_bind, run_underlying hd, Result.andThen_ok, hM, run_getObj_map hb, Sem.run_pure, run_newObj]
      · cases hv
    · cases hv
  · cases hv

theorem run_getIter {b : Nat} {m : Option Nat} {since : Nat} {seen : Array Nat} {last : Nat} (hb : w.heap[b]? = some (.mapIter m since seen last)) : (getObj b).run P w = .ok (.mapIter m since seen last) w := by
  simp [getObj, Sem.run, hb]
theorem run_setIter {b : Nat} {m : Option Nat} {since : Nat} {seen : Array Nat} {last : Nat} (o : Go.Obj) (hb : w.heap[b]? = some (.mapIter m since seen last)) : (setObj b o).run P w = .ok () (wput w b o) := by
  simp [setObj, Sem.run, hb, wput]
theorem run_getStr {b : Nat} {s : ByteArray} {pos : Nat} (hb : w.heap[b]? = some (.stringIter s pos)) : (getObj b).run P w = .ok (.stringIter s pos) w := by
  simp [getObj, Sem.run, hb]
theorem run_setStr {b : Nat} {s : ByteArray} {pos : Nat} (o : Go.Obj) (hb : w.heap[b]? = some (.stringIter s pos)) : (setObj b o).run P w = .ok () (wput w b o) := by
  simp [setObj, Sem.run, hb, wput]

theorem lastN_back : ∀ {l : List Nat} {b : Nat}, lastN l = some b → l.toArray.back? = some b
  | [], b, hh => by simp [lastN] at hh
  | [x], b, hh => by simp [lastN] at hh; subst hh; rfl
  | x :: y :: l, b, hh => by
    simp only [lastN] at hh
    have := lastN_back (l := y :: l) hh
    simpa using this

theorem op_entry {it : Operand} (q : Pre P ρ h w) (e : ER ρ env a.tmps) (ho : o.op = .entry it) (hv : opS (.entry it) P env h = .one v h') : OneOk P ρ h w (execOp a.eval o) v h' := by
  have hx := eval_ok q e it
  simp only [opS] at hv
  split at hv
  · rename_i p he
    rw [he] at hx
    obtain ⟨r, hr, hX⟩ := hx
    have key : ∀ (m b last : Nat) (rm : Ri) (since : Nat) (seen : Array Nat), r.off = 0 → ρ m = some rm → w.heap[r.blk]? = some (.mapIter (some rm.blk) since seen last) → seen.back? = some b → entryB h b last (mapO (h.get m)) = .one v h' → OneOk P ρ h w (execOp a.eval o) v h' := by
      intro m b last rm since seen hoff hrm hbk hback hv
      unfold entryB at hv
      split at hv
      · cases hv
      · rename_i es c hmo
        obtain ⟨xs, hb, her⟩ := map_block q.hr hrm hmo
        split at hv
        · cases hv
        · rename_i hc
          have hc := beq_iff.1 hc
          subst hc
          split at hv
          · rename_i en hf
            cases hv
            obtain ⟨j, x', k1, k2, k3, k4, k5, k6, k7, k8, k9⟩ := findB_ok hf her
            have k8' : xs.find? (fun e => e.born == b) = some x' := by
              rw [← List.find?_toArray] at k8
              simpa using k8
            refine OneOk.pure q (x := .tuple #[x'.key, x'.val]) ?_ ⟨#[x'.key, x'.val], rfl, _, _, rfl, k3, _, _, rfl, k4, rfl⟩
            unfold execOp; rw [ho]
            simp only [hX, hoff, Instr.entry, Sem.run_bind, Nat.add_zero, run_getIter hbk, Result.andThen_ok, hback, run_getObj_map hb, bne_self_eq_false, Bool.false_eq_true, if_false, Sem.run_pure, k8']
          · cases hv
    unfold entryO at hv
    split at hv
    · rename_i m since seen last hg
      split at hv
      · rename_i b hl
        obtain ⟨r', hr', hor⟩ := q.hr.obj _ _ hg
        rw [hr] at hr'; cases hr'
        obtain ⟨rm, hrm, hbk, ho0⟩ := hor
        exact key m b last rm since seen.toArray ho0 hrm hbk (lastN_back hl) hv
      · cases hv
    · rename_i m b last hg
      obtain ⟨r', hr', hor⟩ := q.hr.obj _ _ hg
      rw [hr] at hr'; cases hr'
      obtain ⟨rm, since, seen, hrm, hbk, ho0⟩ := hor
      exact key m b last rm since (seen.push b) ho0 hrm hbk (by simp) hv
    · cases hv
  · cases hv
end ops
end Sx

namespace Sx
open Go Go.MapKept

section ops
variable {P : Program} {ρ : Rho} {h h' : H} {w : World} {env : Env} {a : Act} {o : Oper} {v : V}

/-! ### the next step of an iterator -/
theorem memN_iff {x : Nat} {l : List Nat} : memN x l = l.contains x := by
  induction l with
  | nil => rfl
  | cons y l ih =>
    simp only [memN, List.contains_cons]
    cases hb : Nat.beq x y with
    | true => rw [beq_iff] at hb; subst hb; simp
    | false =>
      rw [beq_false] at hb
      have : (x == y) = false := by simpa using hb
      simp [this, ih]

theorem leftOf_ok {since : Nat} {seen : List Nat} : ∀ {es : List E} {xs : List MapEntry} {l : List E}, leftOf since seen es = some l → ErR ρ es xs →
    (∀ x ∈ xs, x.born < since) ∧ ErR ρ l (xs.filter fun e => !seen.contains e.born)
  | [], xs, l, hf, hr => by
    simp [leftOf] at hf
    subst hf
    rw [show xs = [] from hr]
    exact ⟨by simp, rfl⟩
  | ⟨ak, av, n⟩ :: es, xs, l, hf, hr => by
    obtain ⟨x, xs, rfl, h1, h2, h3, h4⟩ := hr
    simp only at h3
    simp only [leftOf] at hf
    split at hf
    · cases hf
    · rename_i l' hl
      obtain ⟨k1, k2⟩ := leftOf_ok hl h4
      split at hf
      · cases hf
      · rename_i hb
        have hb := ble_false.1 hb
        have hall : ∀ y ∈ x :: xs, y.born < since := by
          intro y hy
          rcases List.mem_cons.1 hy with rfl | hy
          · omega
          · exact k1 y hy
        split at hf
        · rename_i hm
          cases hf
          rw [memN_iff] at hm
          refine ⟨hall, ?_⟩
          have : seen.contains x.born = true := by rw [h3]; exact hm
          simp only [List.filter_cons, this, Bool.not_true, Bool.false_eq_true, if_false]
          exact k2
        · rename_i hm
          cases hf
          rw [memN_iff] at hm
          refine ⟨hall, ?_⟩
          have : seen.contains x.born = false := by rw [h3]; exact hm
          simp only [List.filter_cons, this, Bool.not_false, if_true]
          exact ⟨x, _, rfl, h1, h2, h3, k2⟩

theorem anyOld_ok {last : Nat} : ∀ {es : List E} {xs : List MapEntry}, anyOld last es = true → ErR ρ es xs → xs.all (fun e => decide (e.born ≥ last)) = false
  | [], xs, hf, _ => by simp [anyOld] at hf
  | e :: es, xs, hf, hr => by
    obtain ⟨x, xs, rfl, h1, h2, h3, h4⟩ := hr
    simp only [anyOld] at hf
    split at hf
    · have := anyOld_ok hf h4
      simp only [List.all_cons, this, Bool.and_false]
    · rename_i hb
      have hb := ble_false.1 hb
      have : decide (x.born ≥ last) = false := by rw [h3]; simpa using hb
      simp only [List.all_cons, this, Bool.false_and]

theorem stale_ok {seen : List Nat} {es : List E} {last : Nat} {xs : Array MapEntry} (hs : stale seen es last = false) (hr : ErR ρ es xs.toList) :
    (!seen.toArray.isEmpty && !xs.isEmpty && xs.all (fun e => decide (e.born ≥ last))) = false := by
  unfold stale at hs
  cases seen with
  | nil => rfl
  | cons y l =>
    cases es with
    | nil =>
      have : xs.toList = [] := hr
      have : xs = #[] := by simpa using this
      subst this; simp
    | cons e es =>
      simp only at hs
      split at hs
      · rename_i ha
        have := anyOld_ok ha hr
        rw [Array.all_toList] at this
        rw [this]; simp
      · cases hs

/-- the entries that are left, as the model has them -/
theorem cands {since : Nat} {seen : List Nat} {xs : Array MapEntry} (hall : ∀ x ∈ xs.toList, x.born < since) :
    ((xs.filter fun e => !seen.toArray.contains e.born).filter fun e => decide (e.born < since)) = (xs.filter fun e => !seen.toArray.contains e.born) ∧
    ((xs.filter fun e => !seen.toArray.contains e.born).filter fun e => decide (e.born ≥ since)) = #[] := by
  have h2 : ∀ x ∈ (xs.filter fun e => !seen.toArray.contains e.born), x.born < since := by
    intro x hx
    rw [Array.mem_filter] at hx
    exact hall x (by simpa using hx.1)
  constructor
  · rw [Array.filter_eq_self]
    intro x hx
    simpa using h2 x hx
  · rw [Array.filter_eq_empty_iff]
    intro x hx
    have := h2 x hx
    simp; omega

theorem mapNext_cut (n t : Nat) (hn : 0 < n) : (Question.mapNext n).cut t < n := Nat.mod_lt _ hn

def NextOk (P : Program) (ρ : Rho) (h : H) (w : World) (s : Sem Value) (o m since : Nat) (seen : List Nat) (c : Nat) (l : List E) : Prop :=
  ∃ e ∈ l, ∃ x w', s.run P w = .ok x w' ∧ VR ρ (.tup [.bool true, e.k, e.v]) x ∧ Post P ρ h w ρ (h.set o (.iter m since (seen ++ [e.b]) c)) w'

theorem ErR.get {es : List E} {xs : List MapEntry} (hr : ErR ρ es xs) : ∀ (i : Nat) (x : MapEntry), xs[i]? = some x → ∃ e, es[i]? = some e ∧ VR ρ e.k x.key ∧ VR ρ e.v x.val ∧ x.born = e.b := by
  induction es generalizing xs with
  | nil => intro i x hx; rw [show xs = [] from hr] at hx; simp at hx
  | cons e es ih =>
    obtain ⟨y, ys, rfl, h1, h2, h3, h4⟩ := hr
    intro i x hx
    cases i with
    | zero => simp at hx; subst hx; exact ⟨e, rfl, h1, h2, h3⟩
    | succ i => exact ih h4 i x (by simpa using hx)

/-- an iterator over a map with entries left -/
theorem next_many {p m since : Nat} {seen : List Nat} {last c : Nat} {es l : List E} {r : Ri} {ty : TypeId} (q : Pre P ρ h w) (hg : h.get p = some (.iter m since seen last)) (hr : ρ p = some r) (hmo : mapO (h.get m) = some (es, c))
    (hst : stale seen es last = false) (hl : leftOf since seen es = some l) :
    (l = [] → (Instr.next (.pointer (some ⟨r.blk, r.off + 0, none⟩)) false ty).run P w = .ok (.tuple #[.bool false]) w) ∧
    (l ≠ [] → h.may p = true → NextOk P ρ h w (Instr.next (.pointer (some ⟨r.blk, r.off + 0, none⟩)) false ty) p m since seen c l) := by
  obtain ⟨r', hr', hor⟩ := q.hr.obj _ _ hg
  rw [hr] at hr'; cases hr'
  obtain ⟨rm, hrm, hbk, hoff⟩ := hor
  obtain ⟨xs, hb, her⟩ := map_block q.hr hrm hmo
  obtain ⟨hall, hleft⟩ := leftOf_ok hl her
  obtain ⟨c1, c2⟩ := cands (seen := seen) hall
  have hfl : (xs.filter fun e => !seen.toArray.contains e.born).toList = xs.toList.filter fun e => !seen.contains e.born := by
    rw [Array.toList_filter]; congr 1; funext e; simp
  generalize hL : (xs.filter fun e => !seen.toArray.contains e.born) = L at c1 c2 hfl
  rw [← hfl] at hleft
  have core : (Instr.next (.pointer (some ⟨r.blk, r.off + 0, none⟩)) false ty).run P w =
      ((do
        let candidates := (if L.isEmpty then #[none] else #[]) ++ (L ++ #[]).map some
        match candidates[← choose (.mapNext candidates.size)]? with
        | some (some e) =>
          setObj r.blk (.mapIter (some rm.blk) since (seen.toArray.push e.born) c)
          pure (.tuple #[.bool true, e.key, e.val])
        | some none => pure (.tuple #[.bool false])
        | none => stuck "Next: no such candidate") : Sem Value).run P w := by
    simp only [hoff, Nat.add_zero, Instr.next, Sem.run_bind, run_getIter hbk, Result.andThen_ok, run_getObj_map hb, stale_ok hst her, Bool.false_eq_true, if_false, Sem.run_pure, hL, c1, c2]
    rfl
  constructor
  · intro hnil
    subst hnil
    have : L = #[] := by
      have : L.toList = [] := hleft
      simpa using this
    subst this
    rw [core]
    simp [Question.forced]
  · intro hne hmay
    have hLl := hleft.length
    have hpos : 0 < L.size := by
      cases l with
      | nil => exact absurd rfl hne
      | cons => simp at hLl; omega
    have hemp : L.isEmpty = false := by
      cases hh : L.isEmpty with
      | false => rfl
      | true =>
        have := Array.isEmpty_iff.1 hh
        subst this; simp at hpos
    rw [NextOk]
    have hcs : ((if L.isEmpty = true then #[none] else #[]) ++ (L ++ #[]).map some : Array (Option MapEntry)) = L.map some := by rw [hemp]; simp
    -- whichever index is drawn
    have go : ∀ (i : Nat) (w1 : World), i < L.size → (∃ n, w1 = { w with drawn := n }) →
        ∃ e ∈ l, ∃ x w', ((match (L.map some)[i]? with
          | some (some e) => do
            setObj r.blk (.mapIter (some rm.blk) since (seen.toArray.push e.born) c)
            pure (.tuple #[.bool true, e.key, e.val])
          | some none => pure (.tuple #[.bool false])
          | none => stuck "Next: no such candidate") : Sem Value).run P w1 = .ok x w' ∧ VR ρ (.tup [.bool true, e.k, e.v]) x ∧ Post P ρ h w ρ (h.set p (.iter m since (seen ++ [e.b]) c)) w' := by
      rintro i w1 hi ⟨n, rfl⟩
      have hx : L[i]? = some L[i] := by simp [hi]
      obtain ⟨e, he, h1, h2, h3⟩ := hleft.get i L[i] (by rw [Array.getElem?_toList]; exact hx)
      have hbk1 : ({ w with drawn := n } : World).heap[r.blk]? = some (.mapIter (some rm.blk) since seen.toArray last) := hbk
      refine ⟨e, List.mem_of_getElem? he, .tuple #[.bool true, L[i].key, L[i].val], wput { w with drawn := n } r.blk (.mapIter (some rm.blk) since (seen.toArray.push L[i].born) c), ?_, ⟨#[.bool true, L[i].key, L[i].val], rfl, ?_⟩, ?_⟩
      · simp only [Array.getElem?_map, hx, Option.map_some, Sem.run_bind, run_setIter _ hbk1, Result.andThen_ok, Sem.run_pure]
      · exact ⟨_, _, rfl, rfl, _, _, rfl, h1, _, _, rfl, h2, rfl⟩
      · refine Post.from_drew (n := n) (Post.turn (q.drew n) hg hr hmay rfl (.iter m since (seen ++ [e.b]) c) rfl ⟨rm, hrm, ?_, hoff⟩ rfl rfl rfl (wput_size _ _ _) (fun b hb => wput_other _ _ _ _ hb))
        rw [wput_same _ _ _ (lt_of_get hbk1), h3]; simp
    rw [core]
    simp only [hcs, Sem.run_bind, run_choose]
    split
    · rename_i hforced
      have : (L.map some).size = 1 := by
        simp only [Question.forced, decide_eq_true_eq] at hforced
        simp at hforced ⊢; omega
      obtain ⟨e, he, x, w', g1, g2, g3⟩ := go 0 w hpos ⟨w.drawn, rfl⟩
      exact ⟨e, he, x, w', g1, g2, g3⟩
    · have hlt := mapNext_cut (L.map some).size (w.tape w.drawn (.mapNext (L.map some).size)) (by simpa using hpos)
      obtain ⟨e, he, x, w', g1, g2, g3⟩ := go ((Question.mapNext (L.map some).size).cut (w.tape w.drawn (.mapNext (L.map some).size))) { w with drawn := w.drawn + 1 } (Nat.lt_of_lt_of_eq hlt (Array.size_map ..)) ⟨w.drawn + 1, rfl⟩
      exact ⟨e, he, x, w', g1, g2, g3⟩

theorem op_next {it : Operand} {isS : Bool} (q : Pre P ρ h w) (e : ER ρ env a.tmps) (ho : o.op = .next it isS) (hv : opS (.next it isS) P env h = .one v h') : OneOk P ρ h w (execOp a.eval o) v h' := by
  have hx := eval_ok q e it
  simp only [opS] at hv
  have fin : ∀ X w' , (Instr.next (a.eval it) isS o.type).run P w = .ok X w' → VR ρ v X → Post P ρ h w ρ h' w' → OneOk P ρ h w (execOp a.eval o) v h' := by
    intro X w' hX hr hp
    exact ⟨X, w', ρ, .inl (by unfold execOp; rw [ho]; simp only [Sem.run_bind, hX, Result.andThen_ok, Sem.run_pure]), hr, hp⟩
  have over : VR ρ (.tup [.bool false]) (.tuple #[.bool false]) := ⟨#[.bool false], rfl, _, _, rfl, rfl, rfl⟩
  split at hv
  · rename_i p he
    rw [he] at hx
    obtain ⟨r, hr, hX⟩ := hx
    unfold nextO at hv
    split at hv
    · split at hv
      · rename_i hg
        cases hv
        obtain ⟨r', hr', hor⟩ := q.hr.obj _ _ hg
        rw [hr] at hr'; cases hr'
        obtain ⟨hbk, hoff⟩ := hor
        refine fin (.tuple #[.bool false]) w ?_ over (Post.refl q)
        rw [hX]
        simp only [hoff, Nat.add_zero, Instr.next, Sem.run_bind, run_getIter hbk, Result.andThen_ok, Sem.run_pure]
      · rename_i m since seen last hg
        split at hv
        · rename_i es c hmo
          split at hv
          · cases hv
          · rename_i hst
            cases hl : leftOf since seen es with
            | none => rw [hl] at hv; simp [nextM] at hv
            | some l =>
              rw [hl] at hv
              unfold nextM at hv
              cases l with
              | nil =>
                cases hv
                refine fin (.tuple #[.bool false]) w ?_ over (Post.refl q)
                rw [hX]
                exact (next_many q hg hr hmo hst hl).1 rfl
              | cons e l =>
                simp only at hv
                split at hv <;> cases hv
        · cases hv
      · cases hv
    · split at hv
      · rename_i s pos hg
        obtain ⟨r', hr', hor⟩ := q.hr.obj _ _ hg
        rw [hr] at hr'; cases hr'
        obtain ⟨hbk, hoff⟩ := hor
        unfold nextS at hv
        split at hv
        · rename_i hb
          cases hv
          have hb : s.length < pos + 1 := ble_false.1 hb
          refine fin (.tuple #[.bool false]) w ?_ over (Post.refl q)
          rw [hX]
          have : ¬ pos < (ByteArray.mk ⟨s⟩).size := by show ¬ pos < s.length; omega
          simp only [hoff, Nat.add_zero, Instr.next, Sem.run_bind, run_getStr hbk, Result.andThen_ok, Sem.run_pure, if_neg this]
        · rename_i hb
          have hb : pos + 1 ≤ s.length := ble_iff.1 hb
          split at hv
          · cases hv
          · rename_i hmay
            generalize hdec : Utf8.decode ⟨⟨s⟩⟩ pos = d at hv
            obtain ⟨cp, wd⟩ := d
            cases hv
            have : pos < (ByteArray.mk ⟨s⟩).size := by show pos < s.length; omega
            refine fin (.tuple #[.bool true, goInt pos, .int .i32 cp]) _ ?_ ⟨#[.bool true, goInt pos, .int .i32 cp], rfl, _, _, rfl, rfl, _, _, rfl, rfl, _, _, rfl, rfl, rfl⟩
              (Post.turn q hg hr hmay rfl (.striter s (pos + wd)) rfl ⟨wput_same _ _ _ (lt_of_get hbk), hoff⟩ rfl rfl rfl (wput_size _ _ _) (fun b hb => wput_other _ _ _ _ hb))
            rw [hX]
            simp only [hoff, Nat.add_zero, Instr.next, Sem.run_bind, run_getStr hbk, Result.andThen_ok, Sem.run_pure, if_pos this, hdec, run_setStr _ hbk]
      · cases hv
  · cases hv

/-- an operation that may step to any of several entries -/
theorem op_nextMany {it : Operand} {isS : Bool} {p m since : Nat} {seen : List Nat} {c : Nat} {l : List E} (q : Pre P ρ h w) (e : ER ρ env a.tmps) (ho : o.op = .next it isS) (hv : opS (.next it isS) P env h = .many p m since seen c l h') :
    h' = h ∧ ∃ e ∈ l, OneOk P ρ h w (execOp a.eval o) (.tup [.bool true, e.k, e.v]) (h.set p (.iter m since (seen ++ [e.b]) c)) := by
  have hx := eval_ok q e it
  simp only [opS] at hv
  split at hv
  · rename_i p' he
    rw [he] at hx
    obtain ⟨r, hr, hX⟩ := hx
    unfold nextO at hv
    split at hv
    · split at hv
      · cases hv
      · rename_i m' since' seen' last hg
        split at hv
        · rename_i es c' hmo
          split at hv
          · cases hv
          · rename_i hst
            cases hl : leftOf since' seen' es with
            | none => rw [hl] at hv; simp [nextM] at hv
            | some l' =>
              rw [hl] at hv
              unfold nextM at hv
              cases l' with
              | nil => cases hv
              | cons e0 l' =>
                simp only at hv
                split at hv
                · rename_i hmay
                  cases hv
                  refine ⟨rfl, ?_⟩
                  obtain ⟨e1, he1, x, w', g1, g2, g3⟩ := (next_many (ty := o.type) q hg hr hmo hst hl).2 (by simp) hmay
                  refine ⟨e1, he1, x, w', ρ, .inl ?_, g2, g3⟩
                  unfold execOp; rw [ho]
                  simp only [hX, Sem.run_bind, g1, Result.andThen_ok, Sem.run_pure]
                · cases hv
        · cases hv
      · cases hv
    · split at hv
      · unfold nextS at hv
        split at hv
        · cases hv
        · split at hv
          · cases hv
          · simp at hv
      · cases hv
  · cases hv
end ops
end Sx
