/- The row's proof. -/
import Derived.Test.YthghnnhpimgbmaaGreatDoorWL
import Derived.ProofKit
import Derived.LaidMore
import Derived.OpenShut
import Derived.Stop.Joined
import Derived.SevenTiedAt
import Derived.ChangeSame
import Derived.Test.YthghnnhpimgbmaaGreatDoorCards
import Derived.Test.YthghnnhpimgbmaaGreatDoorTie
namespace Go.Proofs.YthghnnhpimgbmaaGreatDoor
open Go.ChangeShapes Go.WideShapes Go.ChangeAt Go.WideMaps Go.WideElems Go.RowKit
set_option maxRecDepth 100000

theorem own : ownKnob Tryz.prog.godebug = none := by kernel_rfl
theorem laidOut : laidOutB Tryz.prog = true := by kernel_rfl
theorem gSp : Tryz.prog.globalNamed "strings.asciiSpace" = some 0 := by kernel_rfl
theorem tSp : (Tryz.prog.globals[0]?).map (·.type) = some 457 := by kernel_rfl
theorem uSp : Tryz.prog.underlying 457 = some (.array 256 5) := by kernel_rfl
theorem uSpE : Tryz.prog.underlying 5 = some (.int .u8) := by kernel_rfl
abbrev laidL {H : Type} : List (String × DataW H) := [("unicode.White_Space", Rows.laid_unicode_White_Space), ("strings.asciiSpace", Rows.laid_strings_asciiSpace)]
theorem dataSp : (Rows.laid_strings_asciiSpace : DataW Unit) = Lib.tabData .u8 spaceCells := by kernel_rfl

theorem door_met (os : Os) (args : Array Value) : laidMetH Tryz.prog laidL ((World.doorLaid Tryz.prog 33 os).forCall (fun _ _ => 0) ⟨#[], args, []⟩).memory :=
  laidMetH_of_parts3 (fuel := 8) (laidMet_of_run' 8 (by kernel_rfl) (by kernel_rfl)) (by kernel_rfl) (by kernel_rfl)

theorem space_of_laid {W : World} (hsh : W.ShapedOpen Tryz.prog) (h : laidMetH Tryz.prog laidL W) : SpaceIs W := by
  rw [MakeChecks.laidMetH_plain _ _ _ (by kernel_rfl)] at h
  have h2 := laidMet.tail h
  rw [dataSp] at h2
  have ht := Lib.tabIs_of_head gSp tSp uSp uSpE (by kernel_rfl) (by kernel_rfl) h2
  have hrow : ((begin Tryz.prog (fun _ _ => 0) default).world.heap[0]?).bind Obj.row? = some (Array.replicate 256 (.int .u8 0), 457) := by kernel_rfl
  obtain ⟨cs, hb, hsz, _⟩ := hsh.1 0 _ 457 (of_decide_eq_true (by kernel_rfl)) hrow
  refine ⟨cs, hb, ?_⟩
  unfold Lib.TabIs World.var? at ht
  rw [gSp] at ht
  simp only [Option.bind_some, hb, Option.some.injEq] at ht
  rw [ht]

section
variable {H : Type} {enc : TypeId × Value → H} {w : World} {base b0 : Nat} {sp : Nat → Bool} {held : Bool} {r : Reach}
theorem open_opts {v : Value} {d : DataW H} {p : List MemPlace} (hv : Value.okWide Tryz.prog w r b0 25 v) (h : DataW.Trod enc Tryz.prog w base sp held 25 v d p) :
    ∃ k b1 b2 b3 m d l t, v = .agg (optV k b1 b2 b3 m d l t) := by
  obtain ⟨cs, rfl, hsz⟩ := okWide_struct Tryz.underlying25 hv
  have c25 : Tryz.prog.cellsOf 25 = 8 := by kernel_rfl
  have c23 : Tryz.prog.cellsOf 23 = 4 := by kernel_rfl
  have c3 : Tryz.prog.cellsOf 3 = 1 := by kernel_rfl
  have c4 : Tryz.prog.cellsOf 4 = 1 := by kernel_rfl
  obtain ⟨l⟩ := cs
  have hlen : l.length = 8 := hsz.trans c25
  match l, hlen with
  | [x0, x1, x2, x3, x4, x5, x6, x7], _ =>
    obtain ⟨fuel, hf⟩ := h
    obtain ⟨xs, n, _, hx, _, hxl, hg⟩ := DataW.trod_struct Tryz.underlying25 hf
    have some_of : ∀ j, j < xs.length → ∃ y, xs[j]? = some y := fun j hj => ⟨xs[j], List.getElem?_eq_getElem hj⟩
    have hxl' : xs.length = 5 := hxl
    have g0 : DataW.trod enc Tryz.prog w base sp held n 3 (([x0, x1, x2, x3, x4, x5, x6, x7].drop 0).take (Tryz.prog.cellsOf 3)) = xs[0]? := hg 0 _ rfl
    have g1 : DataW.trod enc Tryz.prog w base sp held n 4 (([x0, x1, x2, x3, x4, x5, x6, x7].drop 1).take (Tryz.prog.cellsOf 4)) = xs[1]? := hg 1 _ rfl
    have g2 : DataW.trod enc Tryz.prog w base sp held n 4 (([x0, x1, x2, x3, x4, x5, x6, x7].drop 2).take (Tryz.prog.cellsOf 4)) = xs[2]? := hg 2 _ rfl
    have g3 : DataW.trod enc Tryz.prog w base sp held n 4 (([x0, x1, x2, x3, x4, x5, x6, x7].drop 3).take (Tryz.prog.cellsOf 4)) = xs[3]? := hg 3 _ rfl
    have g4 : DataW.trod enc Tryz.prog w base sp held n 23 (([x0, x1, x2, x3, x4, x5, x6, x7].drop 4).take (Tryz.prog.cellsOf 23)) = xs[4]? := hg 4 _ rfl
    rw [c3] at g0
    rw [c4] at g1 g2 g3
    rw [c23] at g4
    obtain ⟨y0, e0⟩ := some_of 0 (by omega)
    obtain ⟨y1, e1⟩ := some_of 1 (by omega)
    obtain ⟨y2, e2⟩ := some_of 2 (by omega)
    obtain ⟨y3, e3⟩ := some_of 3 (by omega)
    obtain ⟨y4, e4⟩ := some_of 4 (by omega)
    obtain ⟨k, q0, _⟩ := DataW.trod_int Tryz.underlying3 (g0.trans e0)
    obtain ⟨b1, q1, _⟩ := DataW.trod_bool Tryz.underlying4 (g1.trans e1)
    obtain ⟨b2, q2, _⟩ := DataW.trod_bool Tryz.underlying4 (g2.trans e2)
    obtain ⟨b3, q3, _⟩ := DataW.trod_bool Tryz.underlying4 (g3.trans e3)
    obtain ⟨ys, n2, _, _, _, hyl, hg2⟩ := DataW.trod_struct Tryz.underlying23 (g4.trans e4)
    have hyl' : ys.length = 4 := hyl
    have some_of2 : ∀ j, j < ys.length → ∃ y, ys[j]? = some y := fun j hj => ⟨ys[j], List.getElem?_eq_getElem hj⟩
    have k0 : DataW.trod enc Tryz.prog w base sp held n2 3 (([x4, x5, x6, x7].drop 0).take (Tryz.prog.cellsOf 3)) = ys[0]? := hg2 0 _ rfl
    have k1 : DataW.trod enc Tryz.prog w base sp held n2 3 (([x4, x5, x6, x7].drop 1).take (Tryz.prog.cellsOf 3)) = ys[1]? := hg2 1 _ rfl
    have k2 : DataW.trod enc Tryz.prog w base sp held n2 3 (([x4, x5, x6, x7].drop 2).take (Tryz.prog.cellsOf 3)) = ys[2]? := hg2 2 _ rfl
    have k3 : DataW.trod enc Tryz.prog w base sp held n2 3 (([x4, x5, x6, x7].drop 3).take (Tryz.prog.cellsOf 3)) = ys[3]? := hg2 3 _ rfl
    rw [c3] at k0 k1 k2 k3
    obtain ⟨z0, f0⟩ := some_of2 0 (by omega)
    obtain ⟨z1, f1⟩ := some_of2 1 (by omega)
    obtain ⟨z2, f2⟩ := some_of2 2 (by omega)
    obtain ⟨z3, f3⟩ := some_of2 3 (by omega)
    obtain ⟨m, p0, _⟩ := DataW.trod_int Tryz.underlying3 (k0.trans f0)
    obtain ⟨dd, p1, _⟩ := DataW.trod_int Tryz.underlying3 (k1.trans f1)
    obtain ⟨ll, p2, _⟩ := DataW.trod_int Tryz.underlying3 (k2.trans f2)
    obtain ⟨t, p3, _⟩ := DataW.trod_int Tryz.underlying3 (k3.trans f3)
    simp at q0 q1 q2 q3 p0 p1 p2 p3
    subst q0 q1 q2 q3 p0 p1 p2 p3
    exact ⟨k, b1, b2, b3, m, dd, ll, t, rfl⟩

theorem open_four {v : Value} {d : DataW H} {p : List MemPlace} (hv : Value.okWide Tryz.prog w r b0 26 v) (h : DataW.Trod enc Tryz.prog w base sp held 26 v d p) :
    ∃ q0 q1 q2 q3, v = .agg #[.int .i64 q0, .int .i64 q1, .int .i64 q2, .int .i64 q3] := by
  have c26 : Tryz.prog.cellsOf 26 = 4 := by kernel_rfl
  have c3 : Tryz.prog.cellsOf 3 = 1 := by kernel_rfl
  obtain ⟨cs, rfl, hsz⟩ : ∃ cs : Array Value, v = .agg cs ∧ cs.size = Tryz.prog.cellsOf 26 := by
    simp only [Value.okWide, Tryz.underlying26] at hv
    obtain ⟨cs, h1, h2, _⟩ := hv
    exact ⟨cs, h1, h2⟩
  obtain ⟨l⟩ := cs
  have hlen : l.length = 4 := hsz.trans c26
  match l, hlen with
  | [x0, x1, x2, x3], _ =>
    obtain ⟨fuel, hf⟩ := h
    obtain ⟨xs, n, _, _, _, hxl, hg⟩ := DataW.trod_array Tryz.underlying26 hf
    have some_of : ∀ j, j < xs.length → ∃ y, xs[j]? = some y := fun j hj => ⟨xs[j], List.getElem?_eq_getElem hj⟩
    have k0 := hg 0 (by omega)
    have k1 := hg 1 (by omega)
    have k2 := hg 2 (by omega)
    have k3 := hg 3 (by omega)
    simp only [c3] at k0 k1 k2 k3
    obtain ⟨z0, f0⟩ := some_of 0 (by omega)
    obtain ⟨z1, f1⟩ := some_of 1 (by omega)
    obtain ⟨z2, f2⟩ := some_of 2 (by omega)
    obtain ⟨z3, f3⟩ := some_of 3 (by omega)
    obtain ⟨m, p0, _⟩ := DataW.trod_int Tryz.underlying3 (k0.trans f0)
    obtain ⟨dd, p1, _⟩ := DataW.trod_int Tryz.underlying3 (k1.trans f1)
    obtain ⟨ll, p2, _⟩ := DataW.trod_int Tryz.underlying3 (k2.trans f2)
    obtain ⟨t, p3, _⟩ := DataW.trod_int Tryz.underlying3 (k3.trans f3)
    simp [Value.cells] at p0 p1 p2 p3
    subst p0 p1 p2 p3
    exact ⟨m, dd, ll, t, rfl⟩
end

section
variable {H : Type} {enc : TypeId × Value → H} {P : Program}
theorem post_of_below {f : Func} {s : ChangeSpec} {apart fresh handsOn again : Bool} {W W' : World} {args : Array Value} {v : Value} {ds gs : List (DataW H)} {before pa pv : List MemPlace}
    (hW : DataW.Whole enc P f.params.toList s.vars apart W args.toList ds gs before)
    (hres : ∀ (b : Nat) (sp : Nat → Bool) (hd : Bool), DataW.TrodAll enc P W' b sp hd f.resultTypes.toList (v.resultList f.resultTypes.size) (s.fn H (ds ++ gs)).results [])
    (hargs : ∀ sp : Nat → Bool, (∀ p ∈ before, sp p.block = true) → DataW.TrodAll enc P W' 0 sp true f.params.toList args.toList (s.fn H (ds ++ gs)).args pa)
    (hvars : ∀ sp : Nat → Bool, (∀ p ∈ before, sp p.block = true) → DataW.TrodVars enc P W' sp s.vars (s.fn H (ds ++ gs)).vars pv)
    (hps : before = pa ++ pv) (hb : Below W.heap.size W W')
    (hok : ∀ (j : Nat) (t : TypeId) (r : Value), f.resultTypes[j]? = some t → (v.resultList f.resultTypes.size)[j]? = some r → Value.okWide P W' .any 0 t r) :
    s.post enc P f apart fresh handsOn again W args v W' := by
  have hlt : ∀ p ∈ before, p.block < W.heap.size := fun p hp => hW.lt p hp
  have hold : ∀ p ∈ before, (fun b => decide (b < W.heap.size)) p.block = true := fun p hp => by simpa using hlt p hp
  refine ⟨ds, gs, before, [], pa, pv, hW, hres _ _ _, hargs _ hold, hvars _ hold, World.keptBut_mono (fun p hp => ⟨hp, ?_⟩) (hb.frame (· ∈ before)), fun _ => ?_⟩
  · rw [hps, List.mem_append] at hp
    exact Or.inr hp
  · obtain ⟨_, _, _, _, _, hz, hn⟩ := hW
    refine ⟨hok, _, _, ([] ++ pa) ++ pv, ⟨[] ++ pa, pv, trodAll_append (hargs _ (fun _ _ => rfl)) (hres _ _ _), hvars _ (fun _ _ => rfl), rfl, ?_, ?_⟩, ?_⟩
    · intro b off hp
      have hin : MemPlace.cell b off ∈ before := by rw [hps]; simpa using hp
      rw [hb.frozen (hlt _ hin)]
      exact hz b off hin
    · intro ha
      have := hn ha
      rw [hps] at this
      simpa using this
    · intro p hp _
      rw [hps]
      simpa using hp
end

theorem returns_shaped {H : Type} {enc : TypeId × Value → H} {a : Assume} {C : Checked} {os : Os} {f : FuncId} {fn : Func} {s : ChangeSpec} {conds : List PathCond} {apart fresh handsOn again : Bool} {X : World → Array Value → Prop}
    (hX : ∀ (w w' : World) (args : Array Value), w.heap = w'.heap → X w args → X w' args)
    (own : ownKnob C.prog.godebug = none) (started : os.Started) (noInit : C.prog.inits.idxOf? f = none) (hfn : C.prog.funcs[f]? = some fn)
    (witness : ∃ (w : World) (tape : Tape) (i : Input), w.os = os ∧ (w.forCall tape i).Shaped C.prog ∧ i.vars = [] ∧ Input.okWide C.prog (w.forCall tape i) .any w.heap.size f i ∧
      ((s.pre enc C.prog fn conds apart (w.forCall tape i).memory i.args ∧ X (w.forCall tape i).memory i.args) ∧ sizedMet enc C.prog fn (OpenSpec.ofChange s) apart (w.forCall tape i).memory i.args) ∧ a.holds C.prog (lone (Frame.enter C.prog f i.args .normal) [] (w.forCall tape i)))
    (contract : ∀ (W : World) (base : Nat) (args : Array Value) (ds gs : List (DataW H)) (before : List MemPlace),
      (∀ (j : Nat) t v, fn.params[j]? = some t → args[j]? = some v → Value.okWide C.prog W .any base t v) →
      DataW.Whole enc C.prog fn.params.toList s.vars apart W args.toList ds gs before → X W args → W.ShapedOpen C.prog →
      Calls C.prog f args W fun e W' => ∃ v, e = .returned v ∧ s.post enc C.prog fn apart fresh handsOn again W args v W') :
    ReturnsInHanded a C os f .any (fun w args => (s.pre enc C.prog fn conds apart w args ∧ X w args) ∧ sizedMet enc C.prog fn (OpenSpec.ofChange s) apart w args) (s.post enc C.prog fn apart fresh handsOn again) := by
  refine returnsInHanded_of_calls own started noInit witness ?_
  intro w tape i _ hsh _ hok hpre _
  obtain ⟨_, _, _, fn', hfn', _, _, _, _, hval⟩ := hok
  have e : fn' = fn := Option.some.inj (hfn'.symm.trans hfn)
  subst e
  obtain ⟨⟨⟨ds, gs, before, hw, _⟩, hx⟩, _⟩ := hpre
  have hw' := DataW.Whole.of_heap (w' := w.forCall tape i) (by rfl) hw
  refine (contract (w.forCall tape i) w.heap.size i.args ds gs before hval hw' (hX _ _ _ (by rfl) hx) hsh).mono fun e W' ⟨v, he, hp⟩ => ?_
  subst he
  exact ChangeSpec.post_blind hp

theorem lifted (os : Os) (started : os.Started) (H : Type) (enc : TypeId × Value → H) :
    ReturnsInHanded {} Tryz.checked os 3 .any (fun w args => (Rows.backOptionsSpec.pre enc Tryz.prog Tryz.f3 [] false w args ∧ laidMetH Tryz.prog laidL w) ∧ sizedMet enc Tryz.prog Tryz.f3 (OpenSpec.ofChange Rows.backOptionsSpec) false w args)
      (Rows.backOptionsSpec.post enc Tryz.prog Tryz.f3 false true false false) := by
  refine returns_shaped (C := Tryz.checked) (X := fun w _ => laidMetH Tryz.prog laidL w) (fun _ _ _ hh h => h.of_heap hh) own started (by kernel_rfl) Tryz.func3
    (ChangeSpec.witness_shaped (enc := enc) (C := Tryz.checked) (os := os) (X := fun w _ => laidMetH Tryz.prog laidL w) false (World.doorLaid Tryz.prog 33 os) #[.agg (optV 0 false false false 0 0 0 0), .agg #[.int .i64 0, .int .i64 0, .int .i64 0, .int .i64 0]] 8 rfl (World.shaped_of_RefB (by kernel_rfl) (by kernel_rfl)) (by kernel_rfl) (by kernel_rfl) (by kernel_rfl) (door_met os _)) ?_
  intro W base args ds gs before hval0 hW hL hsh
  have hval : ∀ (j : Nat) t v, Tryz.f3.params[j]? = some t → args[j]? = some v → Value.okWide Tryz.prog W .any base t v := hval0
  have hW' := hW
  obtain ⟨p, q, hA0, hV, rfl, hfz, hnd⟩ := hW
  have hA : DataW.TrodAll enc Tryz.prog W 0 (fun _ => true) true Tryz.f3.params.toList args.toList ds p := hA0
  rw [Tryz.params3] at hA hval
  obtain ⟨v0, v1, d0, d1, p0, p1, rfl, rfl, rfl, h0, h1⟩ := trodAll_two hA
  obtain ⟨rfl, rfl⟩ := trodVars_none hV
  obtain ⟨k, b1, b2, b3, m, d, l, t, rfl⟩ := open_opts (hval 0 25 v0 rfl rfl) h0
  obtain ⟨q0, q1, q2, q3, rfl⟩ := open_four (hval 1 26 v1 rfl rfl) h1
  refine (law_any k b1 b2 b3 m d l t q0 q1 q2 q3 W (space_of_laid hsh hL)).mono fun e W' ⟨he, hb⟩ => ?_
  subst he
  have hlt : ∀ x ∈ p0 ++ p1 ++ [], x.block < W.heap.size := fun x hx => hW'.lt x hx
  refine ⟨_, rfl, post_of_below (pa := p0 ++ p1) (pv := []) hW' (fun _ _ _ => trodAll_mk1 (shut_bool Tryz.underlying4 true)) (fun sp hsp => ?_) (fun _ _ => rfl) rfl hb (ok_one (by kernel_rfl) rfl (okWide_bool_mk Tryz.underlying4 _))⟩
  refine trodAll_mk2 (WideElems.Trod_stays laidOut (by kernel_rfl) (of_decide_eq_true (by kernel_rfl)) h0 (fun x hx => hb.same (hlt x (by simp [hx]))) (fun x hx => hsp x (by simp [hx])))
    (WideElems.Trod_stays laidOut (by kernel_rfl) (of_decide_eq_true (by kernel_rfl)) h1 (fun x hx => hb.same (hlt x (by simp [hx]))) (fun x hx => hsp x (by simp [hx])))

end Go.Proofs.YthghnnhpimgbmaaGreatDoor
