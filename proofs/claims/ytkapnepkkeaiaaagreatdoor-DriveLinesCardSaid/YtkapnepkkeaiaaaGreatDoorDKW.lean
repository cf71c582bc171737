/- What the walk asks of the program. -/
import Derived.Test.YtkapnepkkeaiaaaGreatDoorDBase
import Derived.Test.YtkapnepkkeaiaaaGreatDoorX5
import Derived.RecoverIn
namespace Go.Proofs.YtkapnepkkeaiaaaGreatDoor
open Sx
set_option maxRecDepth 100000

/-! ## what is asked of the program -/
theorem names1 : (Tryz.prog.funcs.toList.all fun fn => (fn.name == "runtime.NumGoroutine") == false) = true := by kernel_rfl
theorem names2 : (Tryz.prog.funcs.toList.all fun fn => if (fn.name == "internal/abi.NoEscape" || fn.name == "internal/bytealg.IndexByteString" || fn.name == "internal/bytealg.CountString" || fn.name == "maps.clone") then fn.origin == "" else true) = true := by kernel_rfl
theorem mixed : Tryz.prog.follows .mixedOrders = true := by kernel_rfl

theorem mem_funcs {k : FuncId} {fn : Func} (hf : Tryz.prog.funcs[k]? = some fn) : fn ∈ Tryz.prog.funcs.toList := Array.mem_toList_iff.2 (Array.mem_of_getElem? hf)

theorem noNum : NoNum Tryz.prog := fun k fn hf => by
  have := List.all_eq_true.1 names1 fn (mem_funcs hf)
  simpa using this

theorem lg1 : Extern.allGenericRows.lookup "internal/abi.NoEscape" = none := by kernel_rfl
theorem lt1 : Extern.allTypedRows.lookup "internal/abi.NoEscape" = none := by kernel_rfl
theorem lr1 : Extern.allRows.lookup "internal/abi.NoEscape" = some Extern.AbiNoEscape.same := by kernel_rfl
theorem ln1 : Extern.allNextRows.lookup "internal/abi.NoEscape" = none := by kernel_rfl
theorem lg2 : Extern.allGenericRows.lookup "internal/bytealg.IndexByteString" = none := by kernel_rfl
theorem lt2 : Extern.allTypedRows.lookup "internal/bytealg.IndexByteString" = none := by kernel_rfl
theorem lr2 : Extern.allRows.lookup "internal/bytealg.IndexByteString" = some Extern.BytealgIndexByte.indexByte := by kernel_rfl
theorem ln2 : Extern.allNextRows.lookup "internal/bytealg.IndexByteString" = none := by kernel_rfl
theorem lg3 : Extern.allGenericRows.lookup "internal/bytealg.CountString" = none := by kernel_rfl
theorem lt3 : Extern.allTypedRows.lookup "internal/bytealg.CountString" = none := by kernel_rfl
theorem lr3 : Extern.allRows.lookup "internal/bytealg.CountString" = some Extern.BytealgCount.count := by kernel_rfl
theorem ln3 : Extern.allNextRows.lookup "internal/bytealg.CountString" = none := by kernel_rfl
theorem lg4 : Extern.allGenericRows.lookup "maps.clone" = none := by kernel_rfl
theorem lt4 : Extern.allTypedRows.lookup "maps.clone" = none := by kernel_rfl
theorem lr4 : Extern.allRows.lookup "maps.clone" = some Extern.MapsClone.clone := by kernel_rfl
theorem ln4 : Extern.allNextRows.lookup "maps.clone" = none := by kernel_rfl
theorem ln0 : Extern.allNextRows.lookup "" = none := by kernel_rfl

theorem extOk : ExtOk Tryz.prog := fun k fn hf _ => by
  have h := List.all_eq_true.1 names2 fn (mem_funcs hf)
  refine ⟨fun he => ?_, fun he => ?_, fun he => ?_, fun he => ?_⟩
  · rw [he] at h
    simp only [Bool.true_or, if_true, beq_iff_eq] at h
    have hn : fn.name = "internal/abi.NoEscape" := by simpa using he
    unfold Extern.find Extern.findNext
    simp only [hn, h, lg1, lt1, lr1, ln1, ln0]
    exact ⟨rfl, rfl⟩
  · rw [he] at h
    simp only [Bool.true_or, Bool.or_true, if_true, beq_iff_eq] at h
    have hn : fn.name = "internal/bytealg.IndexByteString" := by simpa using he
    unfold Extern.find Extern.findNext
    simp only [hn, h, lg2, lt2, lr2, ln2, ln0]
    exact ⟨rfl, rfl⟩
  · rw [he] at h
    simp only [Bool.true_or, Bool.or_true, if_true, beq_iff_eq] at h
    have hn : fn.name = "internal/bytealg.CountString" := by simpa using he
    unfold Extern.find Extern.findNext
    simp only [hn, h, lg3, lt3, lr3, ln3, ln0]
    exact ⟨rfl, rfl⟩
  · rw [he] at h
    simp only [Bool.or_true, if_true, beq_iff_eq] at h
    have hn : fn.name = "maps.clone" := by simpa using he
    unfold Extern.find Extern.findNext
    simp only [hn, h, lg4, lt4, lr4, ln4, ln0]
    exact ⟨rfl, rfl⟩

theorem tys : ((List.range Tryz.prog.types.size).all fun t => tyB Tryz.prog (Tryz.prog.underlying t)) = true := by kernel_rfl
theorem typesOk : TypesOk Tryz.prog := typesOk_of tys

/-! ## the two deferred functions -/
theorem eqNil (ty : TypeId) (hty : ty = 20) (ρ : Operand → Value) (o : Oper) (t : Tmp) (u : TypeId) (ho : o.op = .binOp .eql ty (.tmp t) (.const .nilIface) u) (hx : ρ (.tmp t) = .nilIface) (hy : ρ (.const .nilIface) = .nilIface) (w : World) : (execOp ρ o).run Tryz.prog w = .ok (.value (.bool true)) w := by
  obtain ⟨dst, op, type, pos, after, guard⟩ := o
  simp only at ho
  subst ho hty
  unfold execOp
  simp only [hx, hy]
  kernel_rfl

section
variable {P : Program}
theorem put_get {a : Act} {d t : Nat} {x : Value} (h : d < a.tmps.size) : (a.put (some d) x).tmps.getD t undef = if t = d then x else a.tmps.getD t undef := by
  simp only [Act.put, Array.getD_eq_getD_getElem?, Array.getElem?_setIfInBounds]
  by_cases e : t = d
  · subst e; simp [h]
  · rw [if_neg (fun q => e q.symm), if_neg e]

theorem dq_body {k : FuncId} {fn : Func} {o0 o1 o2 : Oper} {id0 id1 id2 idb t6 t8 t3 : Nat} {els : Code} {c0 : Call} {ty u : TypeId}
    (hf : P.funcs[k]? = some fn) (hb : fn.body = some (.seq (.region id0 #[o0] false) (.block idb (.seq (.region id1 #[o1] false) (.cond (.tmp t8) (.region id2 #[o2] false) els)))))
    (_h0 : o0.op = .call c0) (_hc0 : c0.callee = .builtin .recover) (_ha0 : c0.args = #[]) (g0 : o0.guard = none) (d0 : o0.dst = some t6)
    (h1 : o1.op = .binOp .eql ty (.tmp t6) (.const .nilIface) u) (g1 : o1.guard = none) (d1 : o1.dst = some t8)
    (h2 : o2.op = .assign (.tmp t6)) (g2 : o2.guard = none) (d2 : o2.dst = some t3)
    (l6 : t6 < fn.ntmps) (l8 : t8 < fn.ntmps) (_hne : t6 ≠ t8) (hr : fn.results = #[])
    (hrec : ∀ (ρ : Operand → Value) (w : World), (execOp ρ o0).run P w = .ok .recover w)
    (heq : ∀ (ρ : Operand → Value) (w : World), ρ (.tmp t6) = .nilIface → ρ (.const .nilIface) = .nilIface → (execOp ρ o1).run P w = .ok (.value (.bool true)) w)
    (args : Array Value) (w : World) : CallsDIn (Fr none) 0 P k args .returning w fun e u' w' => (∃ v, e = .returned v) ∧ u' = .returning ∧ KeepW w w' := by
  refine callsDIn_of_wpSIn hf hb trivial fun c₀ cs hmode => ?_
  have hsz : ∀ (a : Act), a.tmps = args ++ Array.replicate (fn.ntmps - args.size) undef → fn.ntmps ≤ a.tmps.size := by
    intro a ha; rw [ha]; simp; omega
  refine wpSIn_seq (wpSIn_region ?_)
  simp only [wpOpsSIn, List.size_toArray, List.length_cons, List.length_nil, List.range, List.range.loop, List.getElem?_toArray, List.getElem?_cons_zero, Region.wanted, g0, if_true, hrec]
  refine ⟨fun _ _ => trivial, ?_⟩
  have hnone : recoverD (c₀ :: cs) = none := by simp only [recoverD, hmode]
  rw [hnone, d0]
  simp only [Exit.thenS]
  refine wpSIn_of_wpIn rfl (wpIn_block (wpIn_seq (wpIn_region ?_)))
  have s6 : t6 < (args ++ Array.replicate (fn.ntmps - args.size) undef).size := by simp; omega
  simp only [wpOpsIn, List.size_toArray, List.length_cons, List.length_nil, List.range, List.range.loop, List.getElem?_toArray, List.getElem?_cons_zero, Region.wanted, g1, if_true]
  refine ⟨fun _ _ => trivial, ?_⟩
  rw [semAt_fr (fun c hc => by rw [h1] at hc; cases hc), heq _ w (by show (Act.put _ _ _).tmps.getD t6 undef = _; rw [put_get s6, if_pos rfl]) rfl]
  simp only [Oper.uponIn, d1, Exit.then]
  refine wpIn_cond_true ?_ (wpIn_region ?_)
  · show (Act.put _ _ _).tmps.getD t8 undef = _
    rw [put_get (by simp [Act.put]; omega), if_pos rfl]
  · simp only [wpOpsIn, List.size_toArray, List.length_cons, List.length_nil, List.range, List.range.loop, List.getElem?_toArray, List.getElem?_cons_zero, Region.wanted, g2, if_true]
    refine ⟨fun _ _ => trivial, ?_⟩
    rw [semAt_fr (fun c hc => by rw [h2] at hc; cases hc)]
    have hrun : ∀ ρ : Operand → Value, (execOp ρ o2).run P w = .ok (.value (ρ (.tmp t6))) w := by
      intro ρ; unfold execOp; rw [h2]; rfl
    rw [hrun]
    simp only [Oper.uponIn, d2, Exit.inBlock]
    refine ⟨rfl, .returning, by cases c₀; simp_all, .tuple #[], ?_, ⟨_, rfl⟩, rfl, rfl, rfl, rfl, Nat.le_refl _, fun _ _ => rfl⟩
    unfold results
    rw [hr]
    simp only [Array.mapM_eq_mapM_toList, List.mapM_nil]
    rfl
end

theorem dqOk : DqOk Tryz.prog dq := fun k hk => by
  have : k = 66 ∨ k = 460 := by
    unfold dq at hk
    cases hb : Nat.beq k 66 with
    | true => exact .inl (beq_iff.1 hb)
    | false => rw [hb] at hk; exact .inr (beq_iff.1 hk)
  rcases this with rfl | rfl
  · refine ⟨⟨_, _, Tryz.func66, rfl⟩, fun args w => ?_⟩
    exact dq_body Tryz.func66 rfl rfl rfl rfl rfl rfl rfl rfl rfl rfl rfl rfl (by rw [Tryz.ntmps66]; omega) (by rw [Tryz.ntmps66]; omega) (by omega) rfl (fun _ _ => rfl) (fun ρ w hx hy => eqNil 20 rfl ρ _ _ _ rfl hx hy w) args w
  · refine ⟨⟨_, _, Tryz.func460, rfl⟩, fun args w => ?_⟩
    exact dq_body Tryz.func460 rfl rfl rfl rfl rfl rfl rfl rfl rfl rfl rfl rfl (by rw [Tryz.ntmps460]; omega) (by rw [Tryz.ntmps460]; omega) (by omega) rfl (fun _ _ => rfl) (fun ρ w hx hy => eqNil 20 rfl ρ _ _ _ rfl hx hy w) args w
end Go.Proofs.YtkapnepkkeaiaaaGreatDoor
