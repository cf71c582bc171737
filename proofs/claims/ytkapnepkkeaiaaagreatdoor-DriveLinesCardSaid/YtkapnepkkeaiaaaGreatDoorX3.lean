/- A walk by the kernel over a program's code, and that it is sound: part X3. -/
import Derived.Test.YtkapnepkkeaiaaaGreatDoorX2
import Derived.Lib.UnsafeStr
namespace Sx
open Go Go.MapKept

section ops
variable {P : Program} {ρ : Rho} {h h' : H} {w : World} {env : Env} {a : Act} {o : Oper} {v : V}

/-! ### what is appended or copied -/
theorem lenV_ok {x : V} {X : Value} {n : Nat} (hl : lenV x = some n) (hx : VR ρ x X) : (Builtin.lenOf X).run P w = .ok n w := by
  unfold lenV at hl
  split at hl
  · cases hl; rw [show X = _ from hx]; rfl
  · cases hl; rw [show X = _ from hx]; rfl
  · cases hl; obtain ⟨r, ad, c, hr, rfl, _⟩ := hx; rfl
  · cases hl

theorem ofBytes_VRs (s : List UInt8) : VRs ρ (ofBytes s) ((ByteArray.mk ⟨s⟩).data.map fun b => Value.int .u8 b.toNat).toList := by
  simp only [Array.toList_map]
  induction s with
  | nil => rfl
  | cons b s ih => exact ⟨_, _, rfl, rfl, ih⟩

theorem extract_head (s : List UInt8) (n : Nat) : (ByteArray.mk ⟨s⟩).extract 0 n = ByteArray.mk ⟨s.take n⟩ := by
  apply ByteArray.ext
  rw [ByteArray.data_extract]
  apply Array.toList_inj.1
  rw [Array.toList_extract, List.extract_eq_take_drop]
  simp

theorem firstV_ok {x : V} {X : Value} {size n L : Nat} {vs : List V} (hh : HR P ρ h w) (hf : firstV h size n x = some vs) (hx : VR ρ x X) (hl : lenV x = some L) (hn : n ≤ L) :
    ∃ xs : Array Value, VRs ρ vs xs.toList ∧ (Builtin.firstCells size n X).run P w = .ok xs w := by
  unfold firstV at hf
  split at hf
  · cases hf; rw [show X = _ from hx]; exact ⟨#[], rfl, rfl⟩
  · rename_i s
    cases hf; rw [show X = _ from hx]
    refine ⟨_, ofBytes_VRs _, ?_⟩
    simp only [Builtin.firstCells, Sem.run_pure, extract_head]
  · obtain ⟨r, ad, c, hr, rfl, k1, k2, k3, k4, k5⟩ := hx
    obtain ⟨xs, hxl, hxs, hrun⟩ := load_ok hh hr hf
    refine ⟨xs.toArray, by simpa using hxs, ?_⟩
    simp only [Builtin.firstCells]
    by_cases hc : c = 0
    · simp only [lenV, Option.some.injEq] at hl
      have hn0 : n = 0 := by omega
      subst hn0
      have : xs = [] := by
        cases xs with
        | nil => rfl
        | cons => simp at hxl
      subst this
      simp [loadCells, loadCellsFrom]
    · rw [k5 hc]; exact hrun
  · cases hf

theorem asInt_run (k : IntKind) (n : Int) : (asInt (.int k n)).run P w = .ok n w := rfl

/-- what 'append' is given: its types, its elements -/
structure AppIn (P : Program) (w : World) (sT elem : TypeId) (ts : Array TypeId) (X : Value) (i : TypeInfo) (zeros : Bool) (n : Nat) (app : Array Value) : Prop where
  h0 : ts[0]? = some sT
  hu : P.underlying sT = some (.slice elem)
  hi : P.info? elem = some i
  hz : zerosT P ts[1]? = some zeros
  hn : zeros = false → (Builtin.lenOf X).run P w = .ok n w
  hn' : zeros = true → ∃ k, X = .int k (.ofNat n) ∧ n * i.bytes ≤ 281474976710656 ∧ n ≤ 9223372036854775807
  happ : zeros = false → ∀ d, (Builtin.firstCells (P.cellsOf elem) n X).run P { w with drawn := d } = .ok app { w with drawn := d }
  happ' : zeros = true → ∃ z, (∀ w, (zeroValue elem).run P w = .ok z w) ∧ app = (if n * P.cellsOf elem = 0 then #[] else Builtin.zeroCells z.cells n)

theorem zerosT_false {ts : Array TypeId} (hz : zerosT P ts[1]? = some false) : ts[1]? = none ∨ ∃ t d, ts[1]? = some t ∧ P.underlying t = some d ∧ ∀ k, d ≠ .int k := by
  unfold zerosT at hz
  cases h1 : ts[1]? with
  | none => exact .inl rfl
  | some t =>
    rw [h1] at hz
    simp only at hz
    cases hut : P.underlying t with
    | none => rw [hut] at hz; cases hz
    | some d => exact .inr ⟨t, d, rfl, hut, fun k hk => by rw [hut, hk] at hz; simp at hz⟩
theorem zerosT_true {ts : Array TypeId} (hz : zerosT P ts[1]? = some true) : ∃ t k, ts[1]? = some t ∧ P.underlying t = some (.int k) := by
  unfold zerosT at hz
  cases h1 : ts[1]? with
  | none => rw [h1] at hz; cases hz
  | some t =>
    rw [h1] at hz
    simp only at hz
    cases hut : P.underlying t with
    | none => rw [hut] at hz; cases hz
    | some d => cases d <;> rw [hut] at hz <;> simp at hz; exact ⟨t, _, rfl, hut⟩

theorem append_zeros {n b : Nat} (hb : n * b ≤ 281474976710656) : ¬ ((Int.ofNat n) * (b : Int) > 2 ^ 48) := by
  have h3 : ((n * b : Nat) : Int) ≤ ((281474976710656 : Nat) : Int) := Int.ofNat_le.2 hb
  rw [Int.natCast_mul] at h3
  have e4 : (2 : Int) ^ 48 = 281474976710656 := by decide
  rw [e4]
  show ¬ ((n : Int) * (b : Int) > 281474976710656)
  generalize (n : Int) * (b : Int) = m at h3
  omega

/-- an append that needs no more room -/
theorem append_in {sT elem : TypeId} {ts : Array TypeId} {ty : TypeId} {base : Option Addr} {sLen sCap : Nat} {X : Value} {i : TypeInfo} {zeros : Bool} {n : Nat} {app : Array Value} (A : AppIn P w sT elem ts X i zeros n app)
    (hc : sLen + n ≤ sCap) {w' : World} (hst : ∀ a, base = some a → (storeCells (a.add (sLen * P.cellsOf elem)) app.toList).run P w = .ok () w') (hnb : base = none → w' = w) :
    (Builtin.append_ ts ty #[.slice base sLen sCap, X]).run P w = .ok (.slice base (sLen + n) sCap) w' := by
  obtain ⟨h0, hu, hi, hz, hn, hn', happ, happ'⟩ := A
  have hsz : (Go.sizeOf elem).run P w = .ok (P.cellsOf elem) w := run_sizeOf w hi
  have hti : (typeInfo elem).run P w = .ok i w := run_typeInfo w hi
  unfold Builtin.append_
  simp only [h0, List.getElem?_toArray, List.getElem?_cons_zero, List.getElem?_cons_succ]
  cases zeros with
  | false =>
    have hn := hn rfl
    have happ := happ rfl w.drawn
    have hw : ({ w with drawn := w.drawn } : World) = w := rfl
    rw [hw] at happ
    rcases zerosT_false hz with h1 | ⟨t, d, h1, hut, hne⟩
    · simp only [h1, Sem.run_bind, run_underlying hu, Result.andThen_ok, hsz, Sem.run_pure, Bool.false_eq_true, if_false, hn, Bool.not_false, if_true, Sem.run_ite, hti, happ, hc]
      cases base with
      | none => rw [hnb rfl]; rfl
      | some a => simp only [Sem.run_bind, hst a rfl, Result.andThen_ok, Sem.run_pure]
    · simp only [h1, Sem.run_bind, run_underlying hu, run_underlying hut, Result.andThen_ok, hsz, Sem.run_pure]
      cases d with
      | int k => exact absurd rfl (hne k)
      | _ =>
        simp only [Sem.run_bind, Bool.false_eq_true, if_false, hn, Bool.not_false, if_true, Sem.run_ite, hti, happ, hc, Result.andThen_ok, Sem.run_pure]
        cases base with
        | none => rw [hnb rfl]; rfl
        | some a => simp only [Sem.run_bind, hst a rfl, Result.andThen_ok, Sem.run_pure]
  | true =>
    obtain ⟨k, rfl, hb, hmx⟩ := hn' rfl
    obtain ⟨z, hzr, rfl⟩ := happ' rfl
    obtain ⟨t, kt, h1, hut⟩ := zerosT_true hz
    have hlz : ¬ ((Int.ofNat n) < 0) := by simp
    simp only [h1, Sem.run_bind, run_underlying hu, run_underlying hut, Result.andThen_ok, hsz, Sem.run_pure, if_true, asInt_run, wrap_nat hmx, hlz, if_false, hti, append_zeros hb, Sem.run_ite, show (Int.ofNat n).toNat = n from rfl, hc, Bool.not_true, Bool.false_eq_true, hzr w]
    by_cases hs : n * P.cellsOf elem = 0
    · simp only [hs, if_true] at hst ⊢
      simp only [Result.andThen_ok]
      cases base with
      | none => rw [hnb rfl]; rfl
      | some a => simp only [Sem.run_bind, hst a rfl, Result.andThen_ok, Sem.run_pure]
    · simp only [hs, if_false] at hst ⊢
      simp only [Result.andThen_ok]
      cases base with
      | none => rw [hnb rfl]; rfl
      | some a => simp only [Sem.run_bind, hst a rfl, Result.andThen_ok, Sem.run_pure]

/-- the row that an append makes when it needs more room -/
def grownRow (z : Value) (old app : Array Value) (need cap : Nat) : Array Value := old ++ app ++ Builtin.zeroCells z.cells (cap - need)

theorem append_grow {sT elem : TypeId} {ts : Array TypeId} {ty : TypeId} {base : Option Addr} {sLen sCap : Nat} {X : Value} {i : TypeInfo} {zeros : Bool} {n : Nat} {app old : Array Value} {z : Value} (A : AppIn P w sT elem ts X i zeros n app)
    (hc : ¬ sLen + n ≤ sCap) (hr1 : sLen + n ≤ 9223372036854775807) (hr2 : Builtin.nextslicecap (sLen + n) sCap * i.bytes ≤ 2 ^ 48)
    (hold : ∀ d, (Builtin.firstCells (P.cellsOf elem) sLen (.slice base sLen sCap)).run P { w with drawn := d } = .ok old { w with drawn := d }) (hzr : ∀ w, (zeroValue elem).run P w = .ok z w) :
    (Builtin.append_ ts ty #[.slice base sLen sCap, X]).run P w = .ok (.slice (some ⟨w.heap.size, 0, none⟩) (sLen + n) ((Question.appendCap (sLen + n) sCap elem).cut (w.tape w.drawn (.appendCap (sLen + n) sCap elem))))
      { w with drawn := w.drawn + 1, heap := w.heap.push (.cells (grownRow z old app (sLen + n) ((Question.appendCap (sLen + n) sCap elem).cut (w.tape w.drawn (.appendCap (sLen + n) sCap elem)))) elem) } := by
  obtain ⟨h0, hu, hi, hz, hn, hn', happ, happ'⟩ := A
  have hsz : (Go.sizeOf elem).run P w = .ok (P.cellsOf elem) w := run_sizeOf w hi
  have hti : ∀ w, (typeInfo elem).run P w = .ok i w := fun w => run_typeInfo w hi
  have hc1 : ∀ p : Prop, ¬ (((sLen + n : Nat) : Int) > IntKind.i64.max ∧ p) := by
    intro p hh
    have e1 : IntKind.i64.max = 9223372036854775807 := rfl
    rw [e1] at hh
    omega
  have hc2 : ¬ (Builtin.nextslicecap (sLen + n) sCap * i.bytes > 2 ^ 48) := by omega
  unfold grownRow
  unfold Builtin.append_
  simp only [h0, List.getElem?_toArray, List.getElem?_cons_zero, List.getElem?_cons_succ]
  cases zeros with
  | false =>
    have hn := hn rfl
    have happ := happ rfl
    rcases zerosT_false hz with h1 | ⟨t, d, h1, hut, hne⟩
    · simp only [h1, Sem.run_bind, run_underlying hu, Result.andThen_ok, hsz, Sem.run_pure, Bool.false_eq_true, if_false, hn, Bool.not_false, if_true, Sem.run_ite, hti, hc, hc1, hc2, run_choose, Question.forced, run_askRoom, hold, happ, hzr, newRow, run_newObj]
    · simp only [h1, Sem.run_bind, run_underlying hu, run_underlying hut, Result.andThen_ok, hsz, Sem.run_pure]
      cases d with
      | int k => exact absurd rfl (hne k)
      | _ =>
        simp only [Sem.run_bind, Result.andThen_ok, Sem.run_pure, Bool.false_eq_true, if_false, hn, Bool.not_false, if_true, Sem.run_ite, hti, hc, hc1, hc2, run_choose, Question.forced, run_askRoom, hold, happ, hzr, newRow, run_newObj]
  | true =>
    obtain ⟨k, rfl, hb, hmx⟩ := hn' rfl
    obtain ⟨z', hzr', rfl⟩ := happ' rfl
    have hzz : z' = z := by
      have := hzr' w
      rw [hzr w] at this
      cases this; rfl
    subst hzz
    obtain ⟨t, kt, h1, hut⟩ := zerosT_true hz
    have hlz : ¬ ((Int.ofNat n) < 0) := by simp
    simp only [h1, Sem.run_bind, run_underlying hu, run_underlying hut, Result.andThen_ok, hsz, Sem.run_pure, if_true, asInt_run, wrap_nat hmx, hlz, if_false, hti, append_zeros hb, Sem.run_ite, show (Int.ofNat n).toNat = n from rfl, hc, Bool.not_true, Bool.false_eq_true, hc1, hc2, run_choose, Question.forced, run_askRoom, hold, hzr, newRow, run_newObj]
    by_cases hs : n * P.cellsOf elem = 0
    · simp only [hs, if_true, Result.andThen_ok]
    · simp only [hs, if_false, Result.andThen_ok]
end ops
end Sx

namespace Sx
open Go Go.MapKept

section ops
variable {P : Program} {ρ : Rho} {h h' : H} {w : World} {env : Env} {a : Act} {o : Oper} {v : V}

theorem zeroCells_size (z : Array Value) (n : Nat) : (Builtin.zeroCells z n).size = n * z.size := by simp [Builtin.zeroCells]

theorem grow_ok (q : Pre P ρ h w) {elem : TypeId} {olds new : List V} {old app : Array Value} {z : Value} (hz : z.cells.size = P.cellsOf elem) (ho : VRs ρ olds old.toList) (ha : VRs ρ new app.toList) (tot cap d : Nat)
    (hlen : olds.length + new.length = tot * P.cellsOf elem) (hcap : tot ≤ cap) (sib : Option Nat) :
    Post P ρ h w (ρ.put h.next ⟨w.heap.size, 0, (grownRow z old app tot cap).size, P.cellsOf elem⟩) (newOpen h elem (olds ++ new) sib) { w with drawn := d, heap := w.heap.push (.cells (grownRow z old app tot cap) elem) } ∧
    VR (ρ.put h.next ⟨w.heap.size, 0, (grownRow z old app tot cap).size, P.cellsOf elem⟩) (.sl h.next1 0 tot tot true) (.slice (some ⟨w.heap.size, 0, none⟩) tot cap) := by
  have h1 := ho.length
  have h2 := ha.length
  simp only [Array.length_toList] at h1 h2
  have hsz : (grownRow z old app tot cap).size = cap * P.cellsOf elem := by
    simp only [grownRow, Array.size_append, zeroCells_size, hz]
    rw [h1, h2, hlen, ← Nat.add_mul]
    congr 1; omega
  have hle : tot * P.cellsOf elem ≤ cap * P.cellsOf elem := Nat.mul_le_mul_right _ hcap
  have hall := ho.append ha
  constructor
  · refine Post.from_drew (n := d) (Post.new' (q.drew d) _ _ _ _ ⟨grownRow z old app tot cap, (0, 0), heap_push_self _ _, by simp, ?_, fun i hi => ?_, fun _ j _ _ => by simp, fun _ => rfl, (fun k => by cases k)⟩)
    · rw [List.length_append, hlen, hsz]; exact hle
    · obtain ⟨x, hx, hr⟩ := hall.get i (olds ++ new)[i] (List.getElem?_eq_getElem hi)
      refine ⟨x, ?_, ?_⟩
      · simp only [Nat.zero_add, grownRow]
        rw [Array.getElem?_append, if_pos (by rw [Array.size_append, h1, h2]; simpa using hi)]
        rw [← Array.getElem?_toList, Array.toList_append]; exact hx
      · rw [cellAt_leaf_lt _ i hi]
        exact hr.mono (Rho.le_put (q.fresh _ (Nat.le_refl _)))
  · exact ⟨_, _, cap, Rho.put_self _ _ _, rfl, hcap, Nat.le_refl _, (fun k => by cases k), fun _ => by rw [hsz]; simp, fun _ => rfl⟩

theorem growBy_le (need : Nat) : ∀ (r c : Nat), c ≤ 2 * need + 768 → Builtin.growBy need r c ≤ 2 * need + 768
  | 0, c, hc => hc
  | r + 1, c, hc => by
    unfold Builtin.growBy
    split
    · exact hc
    · exact growBy_le need r _ (by omega)

theorem nextslicecap_le (need old : Nat) (hlt : old < need) : Builtin.nextslicecap need old ≤ 2 * need + 768 := by
  unfold Builtin.nextslicecap
  split
  · omega
  · split
    · omega
    · exact growBy_le need 4 old (by omega)

theorem roomy_ok {elem : TypeId} {tot : Nat} (hr : roomy P elem tot = true) :
    (2 * tot + 768) * P.bytesOf elem ≤ 281474976710656 ∧ tot ≤ 9223372036854775807 ∧ ∃ z, zeroOf P elem = some z ∧ z.length = P.cellsOf elem := by
  unfold roomy at hr
  split at hr
  · cases hr
  · rename_i h1
    split at hr
    · cases hr
    · rename_i h2
      split at hr
      · cases hr
      · rename_i z hz
        exact ⟨ble_iff.1 h1, ble_iff.1 h2, z, hz, beq_iff.1 hr⟩

theorem zeroOf_all {t : TypeId} {z : List V} (hz : zeroOf P t = some z) : ∃ x : Value, (∀ w, (zeroValue t).run P w = .ok x w) ∧ ∀ ρ, VRs ρ z x.cells.toList := by
  unfold zeroOf at hz
  cases hv : zeroV P t with
  | none => rw [hv] at hz; cases hz
  | some u =>
    rw [hv] at hz
    cases hz
    unfold zeroV at hv
    split at hv
    · rename_i i hi
      split at hv
      · rename_i x hx
        cases hv
        exact ⟨x, fun w => by simp [zeroValue, typeInfo, hi, hx], fun ρ => cells_of x⟩
      · cases hv
    · cases hv

/-- what is appended, in the model and here -/
theorem news_ok {sT elem : TypeId} {ts : Array TypeId} {x : V} {X : Value} {i : TypeInfo} {n : Nat} {new : List V} (q : Pre P ρ h w) (h0 : ts[0]? = some sT) (hu : P.underlying sT = some (.slice elem)) (hi : P.info? elem = some i)
    (hn : newsV P h elem ts[1]? x = some (n, new)) (hx : VR ρ x X) (hlen : new.length = n * P.cellsOf elem) : ∃ zeros app, AppIn P w sT elem ts X i zeros n app ∧ VRs ρ new app.toList := by
  unfold newsV at hn
  split at hn
  · rename_i hz
    unfold newsZ at hn
    split at hn
    · rename_i k n'
      split at hn
      · rename_i hb
        split at hn
        · rename_i hmx
          split at hn
          · rename_i z hzo
            cases hn
            obtain ⟨Z, hZ, hZr⟩ := zeroOf_all hzo
            have hbytes : P.bytesOf elem = i.bytes := by simp [Program.bytesOf, hi]
            refine ⟨true, _, ⟨h0, hu, hi, hz, (fun k => by cases k), fun _ => ⟨k, hx, by rw [← hbytes]; exact ble_iff.1 hb, ble_iff.1 hmx⟩, (fun k => by cases k), fun _ => ⟨Z, hZ, rfl⟩⟩, ?_⟩
            by_cases hs : n * P.cellsOf elem = 0
            · rw [if_pos hs]
              have : repl z n = [] := by
                rw [hs] at hlen
                exact List.length_eq_zero_iff.1 hlen
              rw [this]; rfl
            · rw [if_neg hs]
              exact zeroes_VRs (hZr ρ) n
          · cases hn
        · cases hn
      · cases hn
    · cases hn
  · rename_i hz
    unfold newsF at hn
    split at hn
    · cases hn
    · rename_i L hL
      split at hn
      · rename_i l hl
        cases hn
        obtain ⟨app, happ, hrun⟩ := firstV_ok q.hr hl hx hL (Nat.le_refl _)
        refine ⟨false, app, ⟨h0, hu, hi, hz, fun _ => lenV_ok hL hx, (fun k => by cases k), fun _ d => ?_, (fun k => by cases k)⟩, happ⟩
        obtain ⟨app', happ', hrun'⟩ := firstV_ok (q.drew d).hr hl hx hL (Nat.le_refl _)
        have : app' = app := by
          have e1 := hrun'
          -- the cells are told by the heap alone
          have key : ∀ w1 : World, w1.heap = w.heap → (Builtin.firstCells (P.cellsOf elem) n X).run P w1 = .ok app w1 := by
            intro w1 hw1
            unfold firstV at hl
            split at hl
            · rw [show X = _ from hx] at hrun ⊢
              simp only [Builtin.firstCells, Sem.run_pure, Result.ok.injEq, and_true] at hrun ⊢
              exact hrun
            · rw [show X = _ from hx] at hrun ⊢
              simp only [Builtin.firstCells, Sem.run_pure, Result.ok.injEq, and_true] at hrun ⊢
              exact hrun
            · obtain ⟨r, ad, c, hr, rfl, k1, k2, k3, k4, k5⟩ := hx
              simp only [lenV, Option.some.injEq] at hL
              simp only [Builtin.firstCells] at hrun ⊢
              by_cases hc : c = 0
              · have hn0 : n = 0 := by omega
                subst hn0
                simp only [Nat.zero_mul, loadCells, loadCellsFrom, Sem.run_pure, Result.ok.injEq, and_true] at hrun ⊢
                exact hrun
              · rw [k5 hc] at hrun ⊢
                obtain ⟨t, nn, dz, m, opn, ro, sib, hg, hle, rfl⟩ := cellsO_some hl
                obtain ⟨r', hr', hor⟩ := q.hr.obj _ _ hg
                rw [hr] at hr'; cases hr'
                obtain ⟨xs, hxl, hv, hcell⟩ := stretch hor _ _ hle
                have g0 := run_loadCells_list (P := P) w ⟨r.blk, r.off + _, none⟩ xs (fun j x hx => by rw [addr_add]; exact hcell j x hx)
                have g1 := run_loadCells_list (P := P) w1 ⟨r.blk, r.off + _, none⟩ xs (fun j x hx => by rw [addr_add]; have := hcell j x hx; unfold World.cell? at this ⊢; rw [hw1]; exact this)
                rw [hxl] at g0 g1
                rw [show n * P.cellsOf elem = Nat.mul n (P.cellsOf elem) from rfl] at hrun ⊢
                rw [g0] at hrun
                rw [g1]
                cases hrun
                rfl
            · cases hl
          have := key { w with drawn := d } rfl
          rw [e1] at this
          cases this; rfl
        rw [← this]; exact hrun'
      · cases hn
  · cases hn
end ops
end Sx

namespace Sx
open Go Go.MapKept

section ops
variable {P : Program} {ρ : Rho} {h h' : H} {w : World} {env : Env} {a : Act} {o : Oper} {v : V}

def ValOk (P : Program) (ρ : Rho) (h : H) (w : World) (s : Sem Value) (v : V) (h' : H) : Prop :=
  ∃ x w' ρ', s.run P w = .ok x w' ∧ VR ρ' v x ∧ Post P ρ h w ρ' h' w'

/-- the cells of a slice that has been told of -/
theorem old_ok {size len cap i o' : Nat} {e : Bool} {X : Value} {olds : List V} (q : Pre P ρ h w) (hx : VR ρ (.sl o' i len cap e) X) (hc : cellsO (h.get o') i (len * size) = some olds) :
    ∃ old : Array Value, VRs ρ olds old.toList ∧ (∀ r, ρ o' = some r → ∀ j y, old.toList[j]? = some y → w.cell? ⟨r.blk, r.off + i + j, none⟩ = some y) ∧ ∀ d, (Builtin.firstCells size len X).run P { w with drawn := d } = .ok old { w with drawn := d } := by
  obtain ⟨t, nn, dz, m, opn, ro, sib, hg, hle, rfl⟩ := cellsO_some hc
  obtain ⟨r, ad, c, hr, rfl, k1, k2, k3, k4, k5⟩ := hx
  obtain ⟨r', hr', hor⟩ := q.hr.obj _ _ hg
  rw [hr] at hr'; cases hr'
  obtain ⟨xs, hxl, hv, hcell⟩ := stretch hor _ _ hle
  refine ⟨xs.toArray, by simpa using hv, fun r' hr' j y hy => by rw [hr] at hr'; cases hr'; exact hcell j y (by simpa using hy), fun d => ?_⟩
  simp only [Builtin.firstCells]
  by_cases hcz : c = 0
  · have hn0 : len = 0 := by omega
    subst hn0
    have : xs = [] := by
      cases xs with
      | nil => rfl
      | cons => simp at hxl
    subst this
    simp [loadCells, loadCellsFrom]
  · rw [k5 hcz]
    have g1 := run_loadCells_list (P := P) { w with drawn := d } ⟨r.blk, r.off + i, none⟩ xs (fun j x hx => by rw [addr_add]; exact hcell j x hx)
    rw [hxl] at g1
    exact g1

theorem cellsAt_append_length (dz : List V) (m : T V) (i k : Nat) (new : List V) : (cellsAt dz m i k ++ new).length = k + new.length := by
  rw [List.length_append, cellsAt_length]

theorem append_ok {ts : Array TypeId} {ty : TypeId} {s x : V} {S X : Value} (tk : TypesOk P) (q : Pre P ρ h w) {t : TypeId} (h0 : ts[0]? = some t) (hs : VR ρ s S) (hx : VR ρ x X) (hv : appendV P h t ts[1]? s x = some (v, h')) :
    ValOk P ρ h w (Builtin.append_ ts ty #[S, X]) v h' := by
  unfold appendV at hv
  split at hv
  · cases hv
  · rename_i elem hel
    have hu := elemS_some hel
    obtain ⟨i, hi⟩ := Option.isSome_iff_exists.1 (tk t _ hu)
    have hbytes : P.bytesOf elem = i.bytes := by simp [Program.bytesOf, hi]
    split at hv
    · cases hv
    · rename_i n new hnew
      unfold appS at hv
      split at hv
      · cases hv
      · rename_i hone
        split at hv
        · cases hv
        · rename_i hlen
          have hlen : new.length = n * P.cellsOf elem := beq_iff.1 hlen
          obtain ⟨zeros, app, A, happ⟩ := news_ok q h0 hu hi hnew hx hlen
          unfold appT at hv
          split at hv
          · -- nil
            rw [show S = _ from hs]
            split at hv
            · cases hv
              exact ⟨.slice none 0 0, w, ρ, append_in A (Nat.le_refl _) (fun a k => by cases k) (fun _ => rfl), rfl, Post.refl q⟩
            · rename_i k hkk
              split at hv
              · rename_i hroom
                cases hv
                obtain ⟨r1, r2, z, hz, hzl⟩ := roomy_ok hroom
                obtain ⟨Z, hZ, hZr⟩ := zeroOf_all hz
                have hzs : Z.cells.size = P.cellsOf elem := by
                  have := (hZr ρ).length
                  simp at this; omega
                have hnc := nextslicecap_le (0 + (k + 1)) 0 (by omega)
                have hrun := append_grow (ty := ty) (base := none) (sLen := 0) (sCap := 0) (old := #[]) (z := Z) A (by omega) (by simpa using r2) (by
                  rw [← hbytes]
                  refine Nat.le_trans (Nat.mul_le_mul_right _ hnc) ?_
                  simpa using r1) (fun d => rfl) hZ
                have hcut := appendCap_cut (0 + (k + 1)) 0 elem (w.tape w.drawn (.appendCap (0 + (k + 1)) 0 elem))
                generalize (Question.appendCap (0 + (k + 1)) 0 elem).cut (w.tape w.drawn (.appendCap (0 + (k + 1)) 0 elem)) = cap at hrun hcut
                rw [Nat.zero_add] at hrun hcut
                obtain ⟨g1, g2⟩ := grow_ok (olds := []) (old := #[]) q hzs rfl happ (k + 1) cap (w.drawn + 1) (by simpa using hlen) hcut none
                exact ⟨_, _, _, hrun, g2, g1⟩
              · cases hv
          · -- a slice
            rename_i o' i' len cap e
            have hs' := hs
            obtain ⟨r, ad, c, hr, rfl, k1, k2, k3, k4, k5⟩ := hs
            split at hv
            · rename_i hle
              have hle : len + n ≤ cap := ble_iff.1 hle
              split at hv
              · rename_i h2 hw
                cases hv
                obtain ⟨r', w', hr', hp, hst⟩ := write_ok q hw happ
                rw [hr] at hr'; cases hr'
                refine ⟨.slice (some ad) (len + n) c, w', ρ, append_in A (by omega) (fun a ha => ?_) (fun k => by cases k), ⟨r, ad, c, hr, rfl, k1, hle, k3, k4, k5⟩, hp⟩
                cases ha
                by_cases hc : c = 0
                · have e1 : n = 0 := by omega
                  subst e1
                  have : app.toList = [] := by
                    have := happ.length
                    rw [hlen] at this
                    simpa using this
                  rw [this] at hst ⊢
                  exact hst _ rfl
                · rw [k5 hc, addr_add]
                  exact hst _ (by rw [Nat.add_assoc]; rfl)
              · cases hv
            · rename_i hgt
              have hgt : cap < len + n := ble_false.1 hgt
              split at hv
              · rename_i hroom
                obtain ⟨r1, r2, z, hz, hzl⟩ := roomy_ok hroom
                obtain ⟨Z, hZ, hZr⟩ := zeroOf_all hz
                have hzs : Z.cells.size = P.cellsOf elem := by
                  have := (hZr ρ).length
                  simp at this; omega
                unfold appGrow at hv
                split at hv
                · rename_i t' nn dz m opn ro sib hg
                  split at hv
                  · cases hv
                  · rename_i hik
                    have hik : i' + len * P.cellsOf elem ≤ nn := ble_iff.1 hik
                    have hcells : cellsO (h.get o') i' (len * P.cellsOf elem) = some (cellsAt dz m i' (len * P.cellsOf elem)) := by
                      rw [hg]; simp only [cellsO]; rw [show Nat.ble (Nat.add i' (len * P.cellsOf elem)) nn = true from ble_iff.2 hik]
                    obtain ⟨old, hold, holdc, holdr⟩ := old_ok (size := P.cellsOf elem) q hs' hcells
                    have hsum : (cellsAt dz m i' (len * P.cellsOf elem)).length + new.length = (len + n) * P.cellsOf elem := by
                      rw [cellsAt_length, hlen, Nat.add_mul]
                    -- it grows
                    have grow : ¬ len + n ≤ c → ∃ cap', len + n ≤ cap' ∧ (Builtin.append_ ts ty #[.slice (some ad) len c, X]).run P w = .ok (.slice (some ⟨w.heap.size, 0, none⟩) (len + n) cap') { w with drawn := w.drawn + 1, heap := w.heap.push (.cells (grownRow Z old app (len + n) cap') elem) } := by
                      intro hnc
                      have hb := nextslicecap_le (len + n) c (by omega)
                      have hrun := append_grow (ty := ty) (base := some ad) (sLen := len) (sCap := c) (old := old) (z := Z) A hnc r2 (by
                        rw [← hbytes]
                        exact Nat.le_trans (Nat.mul_le_mul_right _ hb) r1) holdr hZ
                      exact ⟨_, appendCap_cut _ _ _ _, hrun⟩
                    split at hv
                    · cases hv
                      have hcc := k3 rfl
                      subst hcc
                      obtain ⟨cap', hcap', hrun⟩ := grow (by omega)
                      obtain ⟨g1, g2⟩ := grow_ok q hzs hold happ (len + n) cap' (w.drawn + 1) hsum hcap' none
                      exact ⟨_, _, _, hrun, g2, g1⟩
                    · split at hv
                      · cases hv
                      · split at hv
                        · cases hv
                        · split at hv
                          · cases hv
                          · rename_i hmay
                            split at hv
                            · cases hv
                            · rename_i hte
                              have hte : t' = elem := beq_iff.1 hte
                              subst hte
                              split at hv
                              · cases hv
                              rename_i hself
                              cases hv
                              obtain ⟨r', hr', hor⟩ := q.hr.obj _ _ hg
                              rw [hr] at hr'; cases hr'
                              obtain ⟨cs, fr, e1, e2, e3, e4, e5, e6, e7⟩ := hor
                              have hesz := e6 rfl
                              have hneq : o' ≠ h.next := Nat.ne_of_lt (q.ne_next hg)
                              have hsn : sib ≠ some h.next → True := fun _ => trivial
                              by_cases hnc : len + n ≤ c
                              · -- in the old block
                                have hext := k4 rfl
                                rw [hesz] at hext
                                have hcne : c ≠ 0 := by omega
                                have hall := hold.append happ
                                have hal := happ.length
                                have hfit : r.off + (i' + len * P.cellsOf t') + 0 + app.toList.length ≤ cs.size := by
                                  have : (len + n) * P.cellsOf t' ≤ c * P.cellsOf t' := Nat.mul_le_mul_right _ hnc
                                  rw [Nat.add_mul] at this
                                  rw [hal, hlen, ← e2]; omega
                                obtain ⟨c', hs1, hg1, hrun1⟩ := run_storeCells P r.blk (r.off + (i' + len * P.cellsOf t')) app.toList 0 w cs t' fr e1 hfit (fun j hj hj' => e5 rfl j (by omega) hj') (happ.allOne hone)
                                have hlt := lt_of_get e1
                                have hwb : (wput w r.blk (.cells c' t' fr)).heap[r.blk]? = some (.cells c' t' fr) := wput_same _ _ _ hlt
                                have cellOld : ∀ j, j < i' + len * P.cellsOf t' → ∃ x, c'[r.off + j]? = some x ∧ VR ρ (cellAt dz m j) x := by
                                  intro j hj
                                  rw [hg1, if_neg (by omega)]
                                  exact e4 j (by omega)
                                have p1 := Post.turn' q hg hr hmay rfl (.cells t' (i' + len * P.cellsOf t') dz m true false (some h.next)) (w' := wput w r.blk (.cells c' t' fr))
                                  ⟨c', fr, hwb, by omega, by omega, cellOld, fun hro j h1 h2 => e5 rfl j h1 (by omega), fun _ => hesz, (fun k => by cases k)⟩ rfl rfl rfl (wput_size _ _ _) (fun b hb => wput_other _ _ _ _ hb)
                                have q1 := p1.pre q
                                have hso : sib ≠ some o' := by
                                  rintro rfl
                                  simp [selfSib, Nat.beq_refl] at hself
                                have hget1 : ((h.set o' (.cells t' (i' + len * P.cellsOf t') dz m true false (some h.next))).killO sib).get o' = some (.cells t' (i' + len * P.cellsOf t') dz m true false (some h.next)) := by
                                  rw [H.get_killO, if_neg hso, H.get_set, if_pos rfl]
                                have hmay1 : ((h.set o' (.cells t' (i' + len * P.cellsOf t') dz m true false (some h.next))).killO sib).may o' = true := by
                                  rw [H.may_iff] at hmay ⊢; simpa using hmay
                                have hext' : i' ≤ r.ext := by omega
                                have p2 := Post.alias q1 hget1 hr hmay1 rfl (by simp [Obj.sib]) (.cells t' (cellsAt dz m i' (len * P.cellsOf t') ++ new).length (cellsAt dz m i' (len * P.cellsOf t') ++ new) .leaf true false (some o')) rfl ⟨r.blk, r.off + i', r.ext - i', r.esz⟩ rfl
                                  ⟨c', fr, hwb, by show r.off + i' + (r.ext - i') = c'.size; omega, by
                                    show _ ≤ r.ext - i'
                                    rw [cellsAt_append_length, hlen, ← Nat.add_mul]
                                    have : (len + n) * P.cellsOf t' ≤ c * P.cellsOf t' := Nat.mul_le_mul_right _ hnc
                                    omega, fun j hj => by
                                    obtain ⟨y, hy, hyr⟩ := hall.get j _ (List.getElem?_eq_getElem hj)
                                    refine ⟨y, ?_, ?_⟩
                                    · show c'[r.off + i' + j]? = some y
                                      rw [hg1]
                                      have hol := hold.length
                                      rw [cellsAt_length] at hol
                                      rw [cellsAt_append_length] at hj
                                      rw [List.getElem?_append] at hy
                                      by_cases hjl : j < len * P.cellsOf t'
                                      · rw [if_neg (by omega)]
                                        rw [if_pos (by omega)] at hy
                                        have hcy := holdc r hr j y hy
                                        simp only [World.cell?, e1, Option.isSome_none, Bool.false_eq_true, if_false] at hcy
                                        exact hcy
                                      · rw [if_pos (by omega)]
                                        rw [if_neg (by omega), hol] at hy
                                        rw [show r.off + i' + j - (r.off + (i' + len * P.cellsOf t') + 0) = j - len * P.cellsOf t' by omega]
                                        exact hy
                                    · rw [cellAt_leaf_lt _ j hj]
                                      exact hyr.mono (Rho.le_put (q1.fresh _ (Nat.le_refl _))), fun _ j h1 h2 => e5 rfl j (by have h1' : r.off + i' ≤ j := h1; omega) (by omega), fun _ => hesz, (fun k => by cases k)⟩
                                simp only [H.next_killO, H.next_set] at p2
                                refine ⟨.slice (some ad) (len + n) c, _, _, append_in A hnc (fun a ha => ?_) (fun k => by cases k), ⟨_, ad, c, Rho.put_self _ _ _, rfl, hnc, Nat.le_refl _, (fun k => by cases k), fun _ => ?_, fun _ => ?_⟩, p1.trans p2⟩
                                · cases ha
                                  rw [k5 hcne, addr_add, Nat.add_assoc]
                                  exact hrun1
                                · show 0 + c * r.esz ≤ r.ext - i'
                                  rw [hesz]; omega
                                · rw [k5 hcne]; rfl
                              · -- in a new block
                                obtain ⟨cap', hcap', hrun⟩ := grow hnc
                                have p1 := Post.turn' q hg hr hmay rfl (.cells t' (i' + len * P.cellsOf t') dz m true false (some h.next)) (w' := w)
                                  ⟨cs, fr, e1, e2, by omega, fun j hj => e4 j (by omega), e5, e6, e7⟩ rfl rfl rfl rfl (fun b hb => rfl)
                                have q1 := p1.pre q
                                obtain ⟨g1, g2⟩ := grow_ok q1 hzs hold happ (len + n) cap' (w.drawn + 1) hsum hcap' (some o')
                                simp only [H.next1_eq, H.next_killO, H.next_set] at g1 g2
                                exact ⟨_, _, ρ.put h.next ⟨w.heap.size, 0, (grownRow Z old app (len + n) cap').size, P.cellsOf t'⟩, hrun, g2, p1.trans g1⟩
                · cases hv
              · cases hv
          · cases hv
end ops
end Sx

namespace Sx
open Go Go.MapKept

section ops
variable {P : Program} {ρ : Rho} {h h' : H} {w : World} {env : Env} {a : Act} {o : Oper} {v : V}

theorem copy_ok {ts : Array TypeId} {ty : TypeId} {d s : V} {D S : Value} (tk : TypesOk P) (q : Pre P ρ h w) {t : TypeId} (h0 : ts[0]? = some t) (hd : VR ρ d D) (hs : VR ρ s S) (hv : copyV P h t d s = some (v, h')) :
    ValOk P ρ h w (Builtin.copy_ ts ty #[D, S]) v h' := by
  unfold copyV at hv
  split at hv
  · cases hv
  · rename_i elem hel
    have hu := elemS_some hel
    split at hv
    · cases hv
    · rename_i la hla
      split at hv
      · cases hv
      · rename_i lb hlb
        split at hv
        · cases hv
        · rename_i vs hvs
          have hlb' := lenV_ok (P := P) (w := w) hlb hs
          obtain ⟨xs, hxs, hrun⟩ := firstV_ok q.hr hvs hs hlb (Nat.min_le_left _ _)
          have hsz := sizeOf_run (w := w) (tk t _ hu)
          split at hv
          · rename_i o' i len cap e
            split at hv
            · rename_i h2 hw
              cases hv
              obtain ⟨r', w', hr', hp, hst⟩ := write_ok q hw hxs
              obtain ⟨r, ad, c, hr, rfl, k1, k2, k3, k4, k5⟩ := hd
              rw [hr] at hr'; cases hr'
              simp only [lenV, Option.some.injEq] at hla
              subst hla
              have hst' : (storeCells ad xs.toList).run P w = .ok () w' := by
                by_cases hc : c = 0
                · have e0 : len = 0 := by omega
                  have hvl : vs = [] := by
                    unfold firstV at hvs
                    subst e0
                    split at hvs
                    · cases hvs; rfl
                    · cases hvs; simp [ofBytes]
                    · obtain ⟨_, _, _, _, _, _, _, _, _, rfl⟩ := cellsO_some hvs
                      simp [cellsAt, show Nat.min lb 0 = 0 from Nat.min_zero _]
                    · cases hvs
                  subst hvl
                  have : xs.toList = [] := hxs
                  rw [this] at hst ⊢
                  exact hst _ rfl
                · rw [k5 hc]; exact hst _ rfl
              refine ⟨goInt (Nat.min lb len), w', ρ, ?_, rfl, hp⟩
              simp only [Builtin.copy_, h0, List.getElem?_toArray, List.getElem?_cons_zero, List.getElem?_cons_succ, Sem.run_bind, run_underlying hu, Result.andThen_ok, hlb', hsz, hrun, hst', Sem.run_pure]
            · cases hv
          · cases hv
            simp only [lenV, Option.some.injEq] at hla
            subst hla
            rw [show D = _ from hd]
            refine ⟨goInt (Nat.min lb 0), w, ρ, ?_, rfl, Post.refl q⟩
            simp only [Builtin.copy_, h0, List.getElem?_toArray, List.getElem?_cons_zero, List.getElem?_cons_succ, Sem.run_bind, run_underlying hu, Result.andThen_ok, hlb', hsz, hrun, Sem.run_pure]
          · cases hv

theorem len_ok {ts : Array TypeId} {ty : TypeId} {x : V} {X : Value} (q : Pre P ρ h w) {t : TypeId} (h0 : ts[0]? = some t) (hx : VR ρ x X) (hv : lenB (P.underlying t) x h = .one v h') : ValOk P ρ h w (Builtin.len_ ts ty #[X]) v h' := by
  unfold lenB at hv
  split at hv
  · rename_i n e hd
    cases hv
    exact ⟨goInt n, w, ρ, by simp only [Builtin.len_, h0, List.getElem?_toArray, List.getElem?_cons_zero, Sem.run_bind, run_underlying hd, Result.andThen_ok, Sem.run_pure], rfl, Post.refl q⟩
  · rename_i hd
    split at hv
    · rename_i s
      cases hv
      rw [show X = _ from hx]
      exact ⟨goInt s.length, w, ρ, by simp only [Builtin.len_, h0, List.getElem?_toArray, List.getElem?_cons_zero, Sem.run_bind, run_underlying hd, Result.andThen_ok, Sem.run_pure]; rfl, rfl, Post.refl q⟩
    · cases hv
  · rename_i e hd
    unfold lenS at hv
    split at hv
    · cases hv
      rw [show X = _ from hx]
      exact ⟨goInt 0, w, ρ, by simp only [Builtin.len_, h0, List.getElem?_toArray, List.getElem?_cons_zero, Sem.run_bind, run_underlying hd, Result.andThen_ok, Sem.run_pure]; rfl, rfl, Post.refl q⟩
    · rename_i o' i n cap e
      cases hv
      obtain ⟨r, ad, c, hr, rfl, _⟩ := hx
      exact ⟨goInt n, w, ρ, by simp only [Builtin.len_, h0, List.getElem?_toArray, List.getElem?_cons_zero, Sem.run_bind, run_underlying hd, Result.andThen_ok, Sem.run_pure], rfl, Post.refl q⟩
    · cases hv
  · rename_i k e hd
    unfold lenM at hv
    split at hv
    · cases hv
      rw [show X = _ from hx]
      exact ⟨goInt 0, w, ρ, by simp only [Builtin.len_, h0, List.getElem?_toArray, List.getElem?_cons_zero, Sem.run_bind, run_underlying hd, Result.andThen_ok, Sem.run_pure], rfl, Post.refl q⟩
    · rename_i r0
      obtain ⟨r, hr, rfl⟩ := hx
      split at hv
      · rename_i es c hmo
        cases hv
        obtain ⟨xs, hb, her⟩ := map_block q.hr hr hmo
        have hl := her.length
        simp at hl
        exact ⟨goInt xs.size, w, ρ, by simp only [Builtin.len_, h0, List.getElem?_toArray, List.getElem?_cons_zero, Sem.run_bind, run_underlying hd, Result.andThen_ok, run_getObj_map hb, Sem.run_pure], by rw [hl]; rfl, Post.refl q⟩
      · cases hv
    · cases hv
  · cases hv

theorem cap_ok {ts : Array TypeId} {ty : TypeId} {x : V} {X : Value} (q : Pre P ρ h w) {t e : TypeId} (h0 : ts[0]? = some t) (hd : P.underlying t = some (.slice e)) (hx : VR ρ x X) (hv : capB x h = .one v h') : ValOk P ρ h w (Builtin.cap_ ts ty #[X]) v h' := by
  unfold capB at hv
  split at hv
  · cases hv
    rw [show X = _ from hx]
    exact ⟨goInt 0, w, ρ, by simp only [Builtin.cap_, h0, List.getElem?_toArray, List.getElem?_cons_zero, Sem.run_bind, run_underlying hd, Result.andThen_ok, Sem.run_pure]; rfl, rfl, Post.refl q⟩
  · rename_i o' i n c
    cases hv
    obtain ⟨r, ad, c', hr, rfl, k1, k2, k3, _⟩ := hx
    have := k3 rfl
    subst this
    exact ⟨goInt c', w, ρ, by simp only [Builtin.cap_, h0, List.getElem?_toArray, List.getElem?_cons_zero, Sem.run_bind, run_underlying hd, Result.andThen_ok, Sem.run_pure], rfl, Post.refl q⟩
  · cases hv

theorem delete_ok {ts : Array TypeId} {ty : TypeId} {m k : V} {M K : Value} (q : Pre P ρ h w) {t : TypeId} (h0 : ts[0]? = some t) (hm : VR ρ m M) (hk : VR ρ k K) (hv : deleteV P t h m k = .one v h') : ValOk P ρ h w (Builtin.delete_ ts ty #[M, K]) v h' := by
  unfold deleteV at hv
  split at hv
  · cases hv
  · rename_i hkey
    obtain ⟨kt, d, hkt, hd, hkf⟩ := keyOk_form hkey
    obtain ⟨el, hmt⟩ := keyM_some hkt
    split at hv
    · rename_i r0
      obtain ⟨r, hr, rfl⟩ := hm
      unfold deleteM at hv
      split at hv
      · cases hv
      · rename_i es c hmo
        obtain ⟨xs, hb, her⟩ := map_block q.hr hr hmo
        split at hv
        · cases hv
        · rename_i hmay
          split at hv
          · cases hv
          · rename_i res hf
            cases hv
            rcases findKey_ok (w := w) hd hkf hk hf her with ⟨_, q2, q3⟩ | ⟨j, e', x', q1, q2, q3, q4, q5, q6, q7, _, q9⟩
            · refine ⟨.tuple #[], _, ρ, ?_, VR.undef ρ, map_write q hr hmo hmay _ _ xs (by rw [q3]; exact her)⟩
              simp only [Builtin.delete_, h0, List.getElem?_toArray, List.getElem?_cons_zero, List.getElem?_cons_succ, Sem.run_bind, run_underlying hmt, Result.andThen_ok, run_getObj_map hb, checkKey_ok hd hkf hk, q2, run_setMap _ hb, Sem.run_pure]
            · have hj : j < xs.size := by
                have := (List.getElem?_eq_some_iff.1 q4).1
                simpa using this
              refine ⟨.tuple #[], _, ρ, ?_, VR.undef ρ, map_write q hr hmo hmay _ _ (xs.eraseIdxIfInBounds j) (by
                rw [q9]
                have : (xs.eraseIdxIfInBounds j).toList = xs.toList.eraseIdx j := by
                  unfold Array.eraseIdxIfInBounds
                  rw [dif_pos hj, Array.toList_eraseIdx]
                rw [this]; exact her.erase j)⟩
              simp only [Builtin.delete_, h0, List.getElem?_toArray, List.getElem?_cons_zero, List.getElem?_cons_succ, Sem.run_bind, run_underlying hmt, Result.andThen_ok, run_getObj_map hb, checkKey_ok hd hkf hk, q2, run_setMap _ hb, Sem.run_pure]
    · cases hv

theorem foldV_ok {f : V → V → Option V} {g : Value → Value → Sem Value} (hf : ∀ x y z X Y, f x y = some z → VR ρ x X → VR ρ y Y → ∃ Z, (g X Y).run P w = .ok Z w ∧ VR ρ z Z) :
    ∀ (ys : List V) (x z : V) (X : Value) (Ys : List Value), foldV f x ys = some z → VR ρ x X → VRs ρ ys Ys → ∃ Z, (Ys.foldlM g X).run P w = .ok Z w ∧ VR ρ z Z
  | [], x, z, X, Ys, hh, hx, hy => by simp only [foldV] at hh; cases hh; rw [show Ys = [] from hy]; exact ⟨X, rfl, hx⟩
  | y :: ys, x, z, X, Ys, hh, hx, hy => by
    obtain ⟨Y, Ys, rfl, h1, h2⟩ := hy
    simp only [foldV] at hh
    split at hh
    · rename_i u hu
      obtain ⟨U, hU, hUr⟩ := hf _ _ _ _ _ hu hx h1
      obtain ⟨Z, hZ, hZr⟩ := foldV_ok hf ys u z U Ys hh hUr h2
      exact ⟨Z, by simp only [List.foldlM_cons, Sem.run_bind, hU, Result.andThen_ok, hZ], hZr⟩
    · cases hh

theorem min2_ok (x y z : V) (X Y : Value) (hh : minV x y = some z) (hx : VR ρ x X) (hy : VR ρ y Y) : ∃ Z, (Builtin.min2 X Y).run P w = .ok Z w ∧ VR ρ z Z := by
  unfold minV at hh
  split at hh
  · rename_i k n
    split at hh
    · rename_i k' n'
      unfold minK at hh
      split at hh
      · cases hh
        rw [show X = _ from hx, show Y = _ from hy]
        refine ⟨_, rfl, ?_⟩
        show Value.int k _ = Value.int k _
        congr 1
        cases hb : bleI n n' with
        | true => rw [bleI_iff] at hb; have := of_decide_eq_true hb; simp; omega
        | false => rw [bleI_iff] at hb; have := of_decide_eq_false hb; simp; omega
      · cases hh
    · cases hh
  · cases hh

theorem max2_ok (x y z : V) (X Y : Value) (hh : maxV x y = some z) (hx : VR ρ x X) (hy : VR ρ y Y) : ∃ Z, (Builtin.max2 X Y).run P w = .ok Z w ∧ VR ρ z Z := by
  unfold maxV at hh
  split at hh
  · rename_i k n
    split at hh
    · rename_i k' n'
      unfold maxK at hh
      split at hh
      · cases hh
        rw [show X = _ from hx, show Y = _ from hy]
        refine ⟨_, rfl, ?_⟩
        show Value.int k _ = Value.int k _
        congr 1
        cases hb : bleI n' n with
        | true => rw [bleI_iff] at hb; have := of_decide_eq_true hb; simp; omega
        | false => rw [bleI_iff] at hb; have := of_decide_eq_false hb; simp; omega
      · cases hh
    · cases hh
  · cases hh

theorem elemP_some {t e : TypeId} (he : elemP P t = some e) : P.underlying t = some (.pointer e) := by
  unfold elemP at he
  split at he
  · rename_i hu; cases he; exact hu
  · cases he

theorem liesAt_run {e : TypeId} (hc : P.cellsOf e = 1) (count off n : Nat) (hn : off + n ≤ count) : liesAt P P.depth e count off e n = true := by
  have hd : P.depth = (2 * (P.types.size + Made.depth) + 1) + 1 := rfl
  rw [hd]
  simp only [liesAt, Bool.or_eq_true]
  left
  rw [hd]
  simp [rowAt, hc, hn, sameLayout, Nat.mod_one]

theorem unsafeStr_ok {ts : Array TypeId} {ty : TypeId} {x n : V} {X N : Value} (q : Pre P ρ h w) {t : TypeId} (h0 : ts[0]? = some t) (hx : VR ρ x X) (hn : VR ρ n N) (hv : unsafeStr P t h x n = .one v h') : ValOk P ρ h w (Builtin.unsafeString_ ts ty #[X, N]) v h' := by
  have hmax : IntKind.i64.max = 9223372036854775807 := rfl
  unfold unsafeStr at hv
  split at hv
  · cases hv
  · rename_i hn0
    obtain ⟨k, rfl⟩ := natOf_some hn0 hn
    split at hv
    · cases hv
      rw [show X = _ from hx]
      exact ⟨.string .empty, w, ρ, by refine (congrArg (fun m : Sem Value => m.run P w) (show Builtin.unsafeString_ ts ty #[_, .int k (.ofNat 0)] = (asInt (.int k (.ofNat 0)) >>= _) from rfl)).trans ?_; simp [asInt, asIntOf, hmax, h0], rfl, Post.refl q⟩
    · cases hv
      obtain ⟨r, hr, rfl⟩ := hx
      exact ⟨.string .empty, w, ρ, by refine (congrArg (fun m : Sem Value => m.run P w) (show Builtin.unsafeString_ ts ty #[_, .int k (.ofNat 0)] = (asInt (.int k (.ofNat 0)) >>= _) from rfl)).trans ?_; simp [asInt, asIntOf, hmax, h0], rfl, Post.refl q⟩
    · cases hv
  · rename_i kk hn0
    obtain ⟨k, rfl⟩ := natOf_some hn0 hn
    split at hv
    · rename_i o' i
      obtain ⟨r, hr, rfl⟩ := hx
      split at hv
      · rename_i e he
        have hpt := elemP_some he
        unfold freezeO at hv
        split at hv
        · rename_i t' nn dz m opn ro sib hg
          split at hv
          · cases hv
          · rename_i hte
            have hte : t' = e := beq_iff.1 hte
            subst hte
            split at hv
            · cases hv
            · rename_i hc1
              have hc1 : P.cellsOf t' = 1 := beq_iff.1 hc1
              split at hv
              · cases hv
              · rename_i hmx
                have hmx : kk + 1 ≤ 9223372036854775807 := ble_iff.1 hmx
                unfold freezeC at hv
                split at hv
                · cases hv
                · rename_i hin
                  have hin : i + (kk + 1) ≤ nn := ble_iff.1 hin
                  split at hv
                  · cases hv
                  · rename_i hmay
                    split at hv
                    · cases hv
                    · split at hv
                      · rename_i s hs
                        cases hv
                        obtain ⟨r', hr', hor⟩ := q.hr.obj _ _ hg
                        rw [hr] at hr'; cases hr'
                        obtain ⟨xs, hxl, hxv, hcell⟩ := stretch hor i (kk + 1) hin
                        obtain ⟨cs, fr, e1, e2, e3, e4, e5, e6, e7⟩ := hor
                        obtain ⟨ns, rfl, rfl⟩ := bytesOf_ok hs hxv
                        obtain ⟨lo, hi⟩ := fr
                        have hlen : ns.length = kk + 1 := by simpa using hxl
                        -- every byte in range
                        have hload : ∀ (l : List Nat) (a : Addr) (acc : ByteArray), (∀ j x, l[j]? = some x → w.cell? (a.add j) = some (.int .u8 (.ofNat x))) → (loadBytes a acc l.length).run P w = .ok ⟨acc.data ++ (l.map UInt8.ofNat).toArray⟩ w := by
                          intro l
                          induction l with
                          | nil => intro a acc _; simp [loadBytes]
                          | cons x l ih =>
                            intro a acc hl
                            have h0 : w.cell? a = some (.int .u8 (.ofNat x)) := by
                              have := hl 0 x rfl
                              simpa [Addr.add] using this
                            have hrest := ih (a.add 1) (acc.push (UInt8.ofNat x)) (fun j y hy => by
                              have := hl (j + 1) y (by simpa using hy)
                              have e : (a.add 1).add j = a.add (j + 1) := by
                                unfold Addr.add
                                by_cases hj : j = 0
                                · subst hj; simp
                                · simp [hj]; omega
                              rw [e]; exact this)
                            have hx8 : ((Int.ofNat x).toNat).toUInt8 = UInt8.ofNat x := rfl
                            simp only [List.length_cons, loadBytes, Sem.run_bind, run_load, h0, Result.andThen, hx8]
                            rw [hrest]
                            congr 2
                            simp [ByteArray.push]
                        have hlb := hload ns ⟨r.blk, r.off + i, none⟩ .empty (fun j x hx => by
                          rw [addr_add]
                          exact hcell j (.int .u8 (.ofNat x)) (by simp [hx]))
                        rw [hlen] at hlb
                        have hlies := liesAt_run hc1 (cs.size / P.cellsOf t') (r.off + i) (kk + 1) (by rw [hc1, Nat.div_one]; omega)
                        have hnn : ¬ ((kk : Int) + 1 < 0) := by omega
                        have hmx' : ¬ ((kk : Int) + 1 > 9223372036854775807) := by omega
                        have hnz : ¬ ((kk : Int) + 1 = 0) := by omega
                        have htn : ((kk : Int) + 1).toNat = kk + 1 := by omega
                        refine ⟨.string ⟨(ns.map UInt8.ofNat).toArray⟩, _, ρ, ?_, rfl, Post.turn q hg hr hmay rfl (.cells t' nn dz m opn true none) (w' := w.freeze ⟨r.blk, r.off + i, none⟩ (kk + 1)) rfl ⟨cs, (if lo == hi then (r.off + i, r.off + i + (kk + 1)) else (min lo (r.off + i), max hi (r.off + i + (kk + 1)))), ?_, e2, e3, e4, (fun k => by cases k), e6, e7⟩ ?_ ?_ ?_ ?_ ?_⟩
                        · refine (congrArg (fun m : Sem Value => m.run P w) (show Builtin.unsafeString_ ts ty #[_, .int k (.ofNat (kk + 1))] = (asInt (.int k (.ofNat (kk + 1))) >>= _) from rfl)).trans ?_
                          simp only [asInt, asIntOf, h0, Sem.run_bind, Sem.run_pure, Result.andThen_ok, Int.ofNat_eq_natCast, Int.natCast_add, Int.natCast_one, hnn, if_false, hmax, hmx', hnz, elemOf, run_underlying hpt, variablesAt, run_program, run_shape, shape_of e1, htn, hlies, if_true, hlb, run_freeze, Sem.run_ite]
                          simp
                        · rw [freeze_eq e1 (by omega)]; exact wput_same _ _ _ (lt_of_get e1)
                        · rw [freeze_eq e1 (by omega)]; rfl
                        · rw [freeze_eq e1 (by omega)]; rfl
                        · rw [freeze_eq e1 (by omega)]; rfl
                        · rw [freeze_eq e1 (by omega)]; exact wput_size _ _ _
                        · intro b hb; rw [freeze_eq e1 (by omega)]; exact wput_other _ _ _ _ hb
                      · cases hv
        · cases hv
      · cases hv
    · cases hv

theorem clear_ok {ts : Array TypeId} {ty : TypeId} {x : V} {X : Value} (q : Pre P ρ h w) {t : TypeId} (h0 : ts[0]? = some t) (hx : VR ρ x X) (hv : clearV P t h x = .one v h') : ValOk P ρ h w (Builtin.clear_ ts ty #[X]) v h' := by
  unfold clearV at hv
  split at hv
  · cases hv
  · rename_i e hel
    have hd := elemS_some hel
    split at hv
    · cases hv
      rw [show X = _ from hx]
      exact ⟨.tuple #[], w, ρ, by simp only [Builtin.clear_, h0, List.getElem?_toArray, List.getElem?_cons_zero, Sem.run_bind, run_underlying hd, Result.andThen_ok, Sem.run_pure], VR.undef ρ, Post.refl q⟩
    · rename_i o' i len cap ee
      obtain ⟨r, ad, c, hr, rfl, k1, k2, k3, k4, k5⟩ := hx
      split at hv
      · rename_i z hz
        obtain ⟨hw, rfl⟩ := orU_one hv
        obtain ⟨Z, hZ, hZr⟩ := zeroOf_all hz
        have hzs := zeroes_VRs (hZr ρ) len
        obtain ⟨r', w', hr', hp, hst⟩ := write_ok q hw hzs
        rw [hr] at hr'; cases hr'
        cases len with
        | zero =>
          have hw' : w' = w := by
            have := hst _ rfl
            simp [storeCells] at this
            exact this.symm
          subst hw'
          exact ⟨.tuple #[], w', ρ, by simp only [Builtin.clear_, h0, List.getElem?_toArray, List.getElem?_cons_zero, Sem.run_bind, run_underlying hd, Result.andThen_ok, Sem.run_pure], VR.undef ρ, hp⟩
        | succ len =>
          have hc : c ≠ 0 := by omega
          refine ⟨.tuple #[], w', ρ, ?_, VR.undef ρ, hp⟩
          have hst' := hst _ rfl
          rw [← k5 hc] at hst'
          have hst'' : (storeCells ad (Builtin.zeroCells Z.cells (len + 1)).toList).run P w = .ok () w' := hst'
          simp only [Builtin.clear_, h0, List.getElem?_toArray, List.getElem?_cons_zero, Sem.run_bind, run_underlying hd, Result.andThen_ok, hZ w, hst'', Sem.run_pure]
      · cases hv
    · cases hv
theorem two_args {args : Array Value} {x y : V} (hr : VRs ρ [x, y] args.toList) : ∃ X Y, args = #[X, Y] ∧ VR ρ x X ∧ VR ρ y Y := by
  obtain ⟨X, xs, e, h1, Y, ys, rfl, h2, e3⟩ := hr
  rw [show ys = [] from e3] at e
  obtain ⟨l⟩ := args
  simp only at e
  subst e
  exact ⟨X, Y, rfl, h1, h2⟩
theorem one_arg {args : Array Value} {x : V} (hr : VRs ρ [x] args.toList) : ∃ X, args = #[X] ∧ VR ρ x X := by
  obtain ⟨X, xs, e, h1, e3⟩ := hr
  rw [show xs = [] from e3] at e
  obtain ⟨l⟩ := args
  simp only at e
  subst e
  exact ⟨X, rfl, h1⟩
theorem first_type {ts : Array TypeId} {t : TypeId} {l : List TypeId} (hl : ts.toList = t :: l) : ts[0]? = some t ∧ ts[1]? = l.head? := by
  obtain ⟨k⟩ := ts
  simp only at hl
  subst hl
  cases l <;> simp

theorem ValOk.next {s : Sem Value} (hs : ValOk P ρ h w s v h') : OneOk P ρ h w (do pure (.value (← s))) v h' := by
  obtain ⟨x, w', ρ', h1, h2, h3⟩ := hs
  exact ⟨x, w', ρ', .inl (by simp only [Sem.run_bind, h1, Result.andThen_ok, Sem.run_pure]), h2, h3⟩

theorem orBH_some {s : String} {x : Option (V × H)} (hh : orBH s x = .one v h') : x = some (v, h') := orBH_one hh

theorem builtin_ok {b : Builtin} {ts : Array TypeId} {ty : TypeId} {consts : Array Bool} {args : Array Value} {vs : List V} (tk : TypesOk P) (q : Pre P ρ h w) (ha : VRs ρ vs args.toList) (hv : builtinV b P ts.toList vs h = .one v h') :
    OneOk P ρ h w (builtin b ts ty consts args) v h' := by
  cases b <;> simp only [builtinV] at hv
  case append =>
    split at hv
    · obtain ⟨X, Y, rfl, h1, h2⟩ := two_args ha
      split at hv
      · rename_i t l hl
        obtain ⟨e1, e2⟩ := first_type hl
        have hv := orBH_one hv
        rw [← e2] at hv
        exact (append_ok tk q e1 h1 h2 hv).next
      · cases hv
    · cases hv
  case cap =>
    split at hv
    · obtain ⟨X, rfl, h1⟩ := one_arg ha
      split at hv
      · rename_i t l hl
        obtain ⟨e1, _⟩ := first_type hl
        split at hv
        · rename_i e he
          exact (cap_ok q e1 (elemS_some he) h1 hv).next
        · cases hv
      · cases hv
    · cases hv
  case clear =>
    split at hv
    · obtain ⟨X, rfl, h1⟩ := one_arg ha
      split at hv
      · rename_i t l hl
        exact (clear_ok q (first_type hl).1 h1 hv).next
      · cases hv
    · cases hv
  case copy =>
    split at hv
    · obtain ⟨X, Y, rfl, h1, h2⟩ := two_args ha
      split at hv
      · rename_i t l hl
        exact (copy_ok tk q (first_type hl).1 h1 h2 (orBH_one hv)).next
      · cases hv
    · cases hv
  case delete =>
    split at hv
    · obtain ⟨X, Y, rfl, h1, h2⟩ := two_args ha
      split at hv
      · rename_i t l hl
        exact (delete_ok q (first_type hl).1 h1 h2 hv).next
      · cases hv
    · cases hv
  case len =>
    split at hv
    · obtain ⟨X, rfl, h1⟩ := one_arg ha
      split at hv
      · rename_i t l hl
        exact (len_ok q (first_type hl).1 h1 hv).next
      · cases hv
    · cases hv
  case min =>
    split at hv
    · obtain ⟨X, Xs, e, h1, h2⟩ := ha
      obtain ⟨hb, rfl⟩ := orB_one hv
      obtain ⟨Z, hZ, hr⟩ := foldV_ok (P := P) (w := w) (fun x y z X Y => min2_ok x y z X Y) _ _ _ _ _ hb h1 h2
      refine ValOk.next ⟨Z, w, ρ, ?_, hr, Post.refl q⟩
      simp only [Builtin.min_, e]
      exact hZ
    · cases hv
  case max =>
    split at hv
    · obtain ⟨X, Xs, e, h1, h2⟩ := ha
      obtain ⟨hb, rfl⟩ := orB_one hv
      obtain ⟨Z, hZ, hr⟩ := foldV_ok (P := P) (w := w) (fun x y z X Y => max2_ok x y z X Y) _ _ _ _ _ hb h1 h2
      refine ValOk.next ⟨Z, w, ρ, ?_, hr, Post.refl q⟩
      simp only [Builtin.max_, e]
      exact hZ
    · cases hv
  case unsafeSliceData =>
    split at hv
    · cases hv
      obtain ⟨X, rfl, h1⟩ := one_arg ha
      obtain ⟨r, ad, c, hr, rfl, k1, k2, k3, k4, k5⟩ := h1
      have hc : c ≠ 0 := by omega
      refine ValOk.next ⟨.pointer (some ad), w, ρ, Lib.run_unsafeSliceData_row w ts ty ad _ c hc, ⟨r, hr, by rw [k5 hc]⟩, Post.refl q⟩
    · cases hv
      obtain ⟨X, rfl, h1⟩ := one_arg ha
      rw [show X = _ from h1]
      exact ValOk.next ⟨.pointer none, w, ρ, Lib.run_unsafeSliceData_nil w ts ty 0 0, rfl, Post.refl q⟩
    · cases hv
  case unsafeString =>
    split at hv
    · obtain ⟨X, Y, rfl, h1, h2⟩ := two_args ha
      split at hv
      · rename_i t l hl
        exact (unsafeStr_ok q (first_type hl).1 h1 h2 hv).next
      · cases hv
    · cases hv
  all_goals cases hv

theorem op_builtin {b : Builtin} {c : Call} (tk : TypesOk P) (q : Pre P ρ h w) (e : ER ρ env a.tmps) (ho : o.op = .call c) (hc : c.callee = .builtin b) (hv : opS (.call c) P env h = .one v h') : OneOk P ρ h w (execOp a.eval o) v h' := by
  simp only [opS, hc, callS] at hv
  have hargs : VRs ρ (evals c.args.toList env) (c.args.map a.eval).toList := by
    rw [Array.toList_map]; exact evals_ok q e _
  have := builtin_ok (ty := o.type) (consts := c.args.map fun | .const _ => true | _ => false) tk q hargs hv
  unfold execOp; rw [ho]
  simp only [resolve, hc, invoke]
  exact this
end ops
end Sx

namespace Sx
open Go Go.MapKept

section ops
variable {P : Program} {ρ : Rho} {h h' : H} {w : World} {env : Env} {a : Act} {o : Oper} {v : V}

/-- EVERY OPERATION that gives one value. -/
theorem one_ok (tk : TypesOk P) (q : Pre P ρ h w) (e : ER ρ env a.tmps) (hv : opS o.op P env h = .one v h') : OneOk P ρ h w (execOp a.eval o) v h' := by
  cases ho : o.op <;> rw [ho] at hv
  case move => exact op_move q e ho hv
  case assign => exact op_assign q e ho hv
  case pick => exact op_pick q e ho hv
  case alloc => exact op_alloc q ho hv
  case box => exact op_box q e ho hv
  case build => exact op_build tk q e ho hv
  case buildSlice => exact op_buildSlice tk q e ho hv
  case load => exact op_load q e ho hv
  case store => exact op_store q e ho hv
  case nilCheck => exact op_nilCheck q e ho hv
  case binOp => exact op_binOp q e ho hv
  case unOp => exact op_unOp q e ho hv
  case convert => exact op_convert q e ho hv
  case makeInterface => exact op_makeInterface q e ho hv
  case makeFunc => exact op_makeFunc q e ho hv
  case makeMap => exact op_makeMap q ho hv
  case makeSlice => exact op_makeSlice tk q e ho hv
  case slice => exact op_slice tk q e ho hv
  case fieldAddr => exact op_fieldAddr q e ho hv
  case field => exact op_field q e ho hv
  case indexAddr => exact op_indexAddr tk q e ho hv
  case index => exact op_index tk q e ho hv
  case lookup => exact op_lookup q e ho hv
  case mapUpdate => exact op_mapUpdate q e ho hv
  case insert => exact op_insert q e ho hv
  case mapEntry => exact op_mapEntry q e ho hv
  case entryStore => exact op_entryStore q e ho hv
  case range => exact op_range q e ho hv
  case next => exact op_next q e ho hv
  case entry => exact op_entry q e ho hv
  case typeAssert => exact op_typeAssert q e ho hv
  case extract => exact op_extract q e ho hv
  case call c =>
    cases hc : c.callee with
    | builtin b => exact op_builtin tk q e ho hc hv
    | value g => simp [opS, callS, hc] at hv
    | invoke r n => simp [opS, callS, hc] at hv
  all_goals (simp only [opS] at hv; cases hv)
end ops
end Sx
