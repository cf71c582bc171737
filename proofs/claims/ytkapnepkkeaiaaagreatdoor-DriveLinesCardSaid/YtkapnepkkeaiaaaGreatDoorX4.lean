/- A walk by the kernel over a program's code, and that it is sound: part X4. -/
import Derived.Test.YtkapnepkkeaiaaaGreatDoorX3
import Derived.RangeFuncLeaves
import Derived.OrdersIn
import Derived.Lib.Bytealg
namespace Sx
open Go Go.MapKept

/-- the fence: none, but for the round -/
def Fr (r : Option Nat) : Fence := { fn := fun _ => True, depth := none, alive := false, round := r }
theorem Fr_room (r : Option Nat) (n : Nat) : (Fr r).room n := fun d hd => by simp [Fr] at hd
theorem Fr_in (r : Option Nat) (l : Nat) : (Fr r).inRound l = Fr (some l) := rfl

section rules
variable {F : Fence} {n : Nat} {P : Program} {Q : Exit → Act → World → Prop} {a : Act} {w : World}

theorem stepR_scope {b : Frame} {k : List Item} {cs : List Frame} {c : Code} : step P (lone (b.atR a (.code (.scope c) :: k)) cs w) = .next (lone (b.atR a (.code c :: .inScope c :: k)) cs w) :=
  step_lone_go (by simp [Go.stepG, Go.stepG.exec, Frame.atR])
theorem stepR_inScope {b : Frame} {k : List Item} {cs : List Frame} {c : Code} : step P (lone (b.atR a (.inScope c :: k)) cs w) = .next (lone (b.atR a k) cs w) :=
  step_lone_go (by simp [Go.stepG, Go.stepG.exec, Frame.atR])

/-- no jump to a label, no panic, nothing outgrown -/
def Calm (Q : Exit → Act → World → Prop) : Prop := ∀ e a w, Q e a w → match e with | .normal | .exit _ | .ret => True | _ => False

theorem wpIn_scope {c : Code} (hQ : Calm Q) (h : c.wpIn F n P Q a w) : (Code.scope c).wpIn F n P Q a w := by
  intro b k cs hro hb hr
  have h0 : (lone (b.atR a (.code (.scope c) :: k)) cs w).fenced P F := fenced_calm hb hr rfl
  obtain ⟨e, a₁, w₁, hq, harr⟩ := h b (.inScope c :: k) cs hro hb hr
  cases e with
  | normal => exact ⟨.normal, a₁, w₁, hq, .head h0 stepR_scope (StepsIn.trans harr (.one (fenced_calm hb hr rfl) stepR_inScope))⟩
  | exit id =>
    have hx : exitTo id (.inScope c :: k) = exitTo id k := by simp [exitTo]
    exact ⟨.exit id, a₁, w₁, hq, fun k' hk => .head h0 stepR_scope (harr.1 k' (by rw [hx]; exact hk)),
      fun hr' hk => let ⟨k₁, h1, h2⟩ := harr.2 hr' (by rw [hx]; exact hk); ⟨k₁, h1, .head h0 stepR_scope h2⟩⟩
  | ret => exact ⟨_, a₁, w₁, hq, .of_steps (.one h0 stepR_scope) harr⟩
  | goto l => exact (hQ _ _ _ hq).elim
  | panic ch => exact (hQ _ _ _ hq).elim
  | outgrown => exact (hQ _ _ _ hq).elim

theorem StepsIn.inv {I : Machine → Prop} {m m' m₁ : Machine} (h : StepsIn I P m m') (hs : step P m = .next m₁) (hne : m ≠ m') : StepsIn I P m₁ m' := by
  cases h with
  | refl => exact absurd rfl hne
  | head _ hs' h' => rw [hs] at hs'; cases hs'; exact h'

theorem exitTo_short (id : Nat) : ∀ (k k' : List Item), exitTo id k = some k' → k'.length ≤ k.length
  | [], k', h => by simp [exitTo] at h
  | x :: k, k', h => by
    cases x with
    | inBlock id' =>
      simp only [exitTo] at h
      split at h
      · cases h; simp
      · have := exitTo_short id k k' h; simp; omega
    | _ => have := exitTo_short id k k' (by simpa [exitTo] using h); simp; omega

theorem lone_todo {fr fr' : Frame} {cs : List Frame} {w w' : World} (h : lone fr cs w = lone fr' cs w') : fr = fr' := by
  simp only [lone, Machine.mk.injEq] at h
  have h1 := h.2.1
  simp at h1
  exact h1

/-- A LOOP UNROLLED. -/
theorem wpIn_unroll {c : Code} (hQ : Calm Q) (h : c.wpIn F n P (Exit.then ((Code.loop c).wpIn F n P Q) Q) a w) : (Code.loop c).wpIn F n P Q a w := by
  intro b k cs hro hb hr
  have h0 : (lone (b.atR a (.code (.loop c) :: k)) cs w).fenced P F := fenced_calm hb hr rfl
  obtain ⟨e, a₁, w₁, hq, harr⟩ := h b (.inLoop c :: k) cs hro hb hr
  cases e with
  | normal =>
    obtain ⟨e₂, a₂, w₂, hq₂, harr₂⟩ := hq b k cs hro hb hr
    have sIn : StepsIn (Machine.fenced P F) P (lone (b.atR a (.code (.loop c) :: k)) cs w) (lone (b.atR a₁ (.code c :: .inLoop c :: k)) cs w₁) :=
      .head h0 stepR_loop (StepsIn.trans harr (.one (fenced_calm hb hr rfl) stepR_inLoop))
    have key : ∀ fr' w', StepsIn (Machine.fenced P F) P (lone (b.atR a₁ (.code (.loop c) :: k)) cs w₁) (lone fr' cs w') → b.atR a₁ (.code (.loop c) :: k) ≠ fr' →
        StepsIn (Machine.fenced P F) P (lone (b.atR a (.code (.loop c) :: k)) cs w) (lone fr' cs w') := by
      intro fr' w' hs hne
      exact StepsIn.trans sIn (StepsIn.inv hs stepR_loop (fun he => hne (lone_todo he)))
    refine ⟨e₂, a₂, w₂, hq₂, ?_⟩
    cases e₂ with
    | normal =>
      refine key _ _ harr₂ (fun he => ?_)
      have := congrArg (fun f => f.todo.length) he
      simp [Frame.atR] at this
    | exit id =>
      refine ⟨fun k' hk => key _ _ (harr₂.1 k' hk) (fun he => ?_), fun hr' hk => ?_⟩
      · have h1 := congrArg (fun f => f.todo.length) he
        have h2 := exitTo_short id k k' hk
        simp [Frame.atR] at h1
        omega
      · obtain ⟨k₁, h1, h2⟩ := harr₂.2 hr' hk
        refine ⟨k₁, h1, key _ _ h2 (fun he => ?_)⟩
        have := congrArg (fun f => f.todo) he
        simp [Frame.atR] at this
    | ret =>
      refine ⟨fun hn => ?_, fun hn => ?_⟩
      · obtain ⟨todo, hs⟩ := harr₂.1 hn
        refine ⟨todo, key _ _ hs (fun he => ?_)⟩
        have := congrArg (fun f => f.mode) he
        simp [Frame.atR] at this
      · obtain ⟨k₁, hs⟩ := harr₂.2 hn
        refine ⟨k₁, key _ _ hs (fun he => ?_)⟩
        have := congrArg (fun f => f.todo) he
        simp [Frame.atR] at this
    | goto l => exact (hQ _ _ _ hq₂).elim
    | panic ch => exact (hQ _ _ _ hq₂).elim
    | outgrown => exact (hQ _ _ _ hq₂).elim
  | exit id => exact ⟨_, a₁, w₁, hq, .of_steps (.one h0 stepR_loop) (.pass (x := .inLoop c) rfl (fun _ _ => .inl (by simp)) harr)⟩
  | ret => exact ⟨_, a₁, w₁, hq, .of_steps (.one h0 stepR_loop) (.pass (x := .inLoop c) rfl (fun _ _ => .inl (by simp)) harr)⟩
  | goto l => exact (hQ _ _ _ hq).elim
  | panic ch => exact (hQ _ _ _ hq).elim
  | outgrown => exact (hQ _ _ _ hq).elim
end rules

/-! ## outcomes -/
def Good (l : List Out) : Prop := ∀ o ∈ l, ∀ s, o ≠ .bad s

theorem mem_bindO {l : List Out} {k : Out → List Out} {o : Out} : o ∈ bindO l k ↔ ∃ x ∈ l, o ∈ k x := by
  cases l with
  | nil => simp [bindO]
  | cons x t =>
    cases t with
    | nil => simp [bindO]
    | cons y t => simp [bindO]

theorem Good.of_bind {l : List Out} {k : Out → List Out} (h : Good (bindO l k)) (hk : ∀ s, ∃ s', .bad s' ∈ k (.bad s)) : Good l := by
  intro o ho s hs
  subst hs
  obtain ⟨s', hs'⟩ := hk s
  exact h _ (mem_bindO.2 ⟨_, ho, hs'⟩) s' rfl
theorem Good.bind {l : List Out} {k : Out → List Out} (h : Good (bindO l k)) {o : Out} (ho : o ∈ l) : Good (k o) :=
  fun x hx => h x (mem_bindO.2 ⟨o, ho, hx⟩)
theorem Good.not_bad {s : String} (h : Good [.bad s]) : False := h _ (List.mem_singleton.2 rfl) s rfl

structure St (P : Program) (ρ : Rho) (h : H) (w : World) (a : Act) (dst : List Tmp) (env : Env) (ds : List D) (h' : H) (a' : Act) (w' : World) (ρ' : Rho) : Prop where
  er : ER ρ' env a'.tmps
  dr : DRs ρ' ds a'.defers
  post : Post P ρ h w ρ' h' w'
  size : a'.tmps.size = a.tmps.size
  frame : ∀ t, t ∉ dst → a'.tmps.getD t undef = a.tmps.getD t undef
  defers : ∃ pre, a'.defers = pre ++ a.defers

def EndM (o : Out) (e : Exit) (K : Env → List D → H → Prop) : Prop := match o with
  | .nrm env ds h => e = .normal ∧ K env ds h
  | .exit id env ds h => e = .exit id ∧ K env ds h
  | .ret env ds h => e = .ret ∧ K env ds h
  | _ => False

/-- the ways in which a piece of code may end -/
def EndOk (P : Program) (ρ : Rho) (h : H) (w : World) (a : Act) (dst : List Tmp) (outs : List Out) (e : Exit) (a' : Act) (w' : World) : Prop :=
  ∃ o ∈ outs, ∃ ρ', EndM o e fun env ds h' => St P ρ h w a dst env ds h' a' w' ρ'

theorem EndOk.calm {P : Program} {ρ : Rho} {h : H} {w : World} {a : Act} {dst : List Tmp} {outs : List Out} : Calm (EndOk P ρ h w a dst outs) := by
  rintro e a' w' ⟨o, _, ρ', hm⟩
  cases o <;> simp only [EndM] at hm <;> first | (obtain ⟨rfl, _⟩ := hm; trivial) | exact hm.elim

/-- a call's ways to end -/
def RetOk (P : Program) (ρ : Rho) (h : H) (w : World) (outs : List Out) (e : Ending) (w' : World) : Prop :=
  ∃ v h' x ρ', Out.val v h' ∈ outs ∧ e = .returned x ∧ VR ρ' v x ∧ Post P ρ h w ρ' h' w'

def CxR (ρ : Rho) (cx : Cx) (r : Option Nat) : Prop := match cx.rd with
  | none => r = none
  | some l => ∃ ri, ρ l = some ri ∧ r = some ri.blk

def CodeOk (P : Program) (c : Code) (cx : Cx) (env : Env) (ds : List D) (h : H) (outs : List Out) : Prop :=
  ∀ ρ w a r, Pre P ρ h w → ER ρ env a.tmps → DRs ρ ds a.defers → CxR ρ cx r → a.tmps.size = cx.n → c.wpIn (Fr r) 0 P (EndOk P ρ h w a (dstsOf c) outs) a w

def OpsOk (P : Program) (l : List Oper) (all : Array Oper) (cx : Cx) (env : Env) (ds : List D) (h : H) (outs : List Out) : Prop :=
  ∀ i, l = all.toList.drop i → ∀ ρ w a r (Q : Exit → Act → World → Prop), Pre P ρ h w → ER ρ env a.tmps → DRs ρ ds a.defers → CxR ρ cx r → a.tmps.size = cx.n →
    (∀ a' w', EndOk P ρ h w a (dstsOps l) outs .normal a' w' → Q .normal a' w') →
    wpOpsIn (Fr r) 0 P all Q (List.range' i l.length) a w

/-- how a call goes on -/
def NextOk' (P : Program) (ρ : Rho) (h : H) (w : World) (outs : List Out) (nx : Next) (w1 : World) : Prop := match nx with
  | .value x => RetOk P ρ h w outs (.returned x) w1
  | .enter f as => CallsIn (Fr none) 0 P f as w1 (RetOk P ρ h w outs)
  | .round l f tmps assign body => RoundIn (Fr none) 0 P l f tmps assign body w1 (RetOk P ρ h w outs)
  | _ => False

def InvOk (P : Program) (g : V) (args : List V) (h : H) (outs : List Out) : Prop :=
  ∀ ρ w (G : Value) (as : Array Value), Pre P ρ h w → VR ρ g G → VRs ρ args as.toList →
    ∃ d nx w1, (Deferred.ofValue G as).run P w = .ok d w ∧ (invoke d.target d.args).run P w = .ok nx w1 ∧ NextOk' P ρ h w outs nx w1 ∧ (hasBody P g = true → ∃ f as', nx = .enter f as' ∧ w1 = w)

def CallOk (P : Program) (k : FuncId) (args : List V) (h : H) (outs : List Out) : Prop :=
  ∀ ρ w (as : Array Value), Pre P ρ h w → VRs ρ args as.toList → ∃ nx w1, (callFunc k as).run P w = .ok nx w1 ∧ NextOk' P ρ h w outs nx w1 ∧ ((∃ fn c, P.funcs[k]? = some fn ∧ fn.body = some c) → nx = .enter k as ∧ w1 = w)

def DefOk (P : Program) (ds : List D) (h : H) (outs : List Out) : Prop :=
  ∀ ρ w (dd : List Deferred) (fn : Func) (tmps : Array Value) (R : Ending → World → Prop), Pre P ρ h w → DRs ρ ds dd →
    (∀ v h' ρ' w', Out.val v h' ∈ outs → Post P ρ h w ρ' h' w' → ∃ x, (results fn tmps).run P w' = .ok x w' ∧ R (.returned x) w') →
    LeavesInM (Fr none) 0 P fn tmps R dd .returning w

/-! ## putting a value -/
theorem evT_set (env : Env) (d : Tmp) (v : V) (i : Nat) : evT (env.set d (some v)) i = if i = d then v else evT env i := by
  unfold evT
  rw [T.get_set]
  by_cases e : i = d
  · rw [if_pos e, if_pos e]
  · rw [if_neg e, if_neg e]

theorem ER.put {ρ : Rho} {env env' : Env} {a : Act} {n : Nat} {dst : Option Tmp} {v : V} {x : Value} (he : ER ρ env a.tmps) (hn : a.tmps.size = n) (hp : putD env n dst v = some env') (hv : VR ρ v x) :
    ER ρ env' (a.put dst x).tmps ∧ (a.put dst x).tmps.size = n ∧ (a.put dst x).defers = a.defers ∧ (∀ t, (∀ d, dst = some d → t ≠ d) → (a.put dst x).tmps.getD t undef = a.tmps.getD t undef) := by
  unfold putD at hp
  split at hp
  · cases hp; exact ⟨he, hn, rfl, fun _ _ => rfl⟩
  · rename_i d
    split at hp
    · rename_i hb
      have hlt : d < a.tmps.size := by rw [hn]; exact ble_iff.1 hb
      cases hp
      refine ⟨fun i => ?_, by simp [Act.put, hn], rfl, fun t ht => ?_⟩
      · rw [evT_set]
        by_cases e : i = d
        · rw [if_pos e]
          subst e
          simp only [Act.put, Array.getD_eq_getD_getElem?, Array.getElem?_setIfInBounds, if_true, hlt, if_pos, Option.getD_some]
          exact hv
        · rw [if_neg e]
          have := he i
          simp only [Act.put, Array.getD_eq_getD_getElem?, Array.getElem?_setIfInBounds, if_neg (fun q => e q.symm : ¬ d = i)]
          simpa [Array.getD_eq_getD_getElem?] using this
      · have := ht d rfl
        simp only [Act.put, Array.getD_eq_getD_getElem?, Array.getElem?_setIfInBounds, if_neg (fun q => this q.symm : ¬ d = t)]
    · cases hp
end Sx

namespace Sx
open Go Go.MapKept

/-! ## states one after the other -/
section st
variable {P : Program} {ρ ρ1 ρ2 : Rho} {h h1 h2 : H} {w w1 w2 : World} {a a1 a2 : Act} {env env1 env2 : Env} {ds ds1 ds2 : List D} {d1 d2 d3 : List Tmp}

theorem St.refl (q : Pre P ρ h w) (e : ER ρ env a.tmps) (d : DRs ρ ds a.defers) : St P ρ h w a d3 env ds h a w ρ :=
  ⟨e, d, Post.refl q, rfl, fun _ _ => rfl, ⟨[], rfl⟩⟩

theorem St.trans (s1 : St P ρ h w a d1 env1 ds1 h1 a1 w1 ρ1) (s2 : St P ρ1 h1 w1 a1 d2 env2 ds2 h2 a2 w2 ρ2) (k1 : ∀ t, t ∈ d1 → t ∈ d3) (k2 : ∀ t, t ∈ d2 → t ∈ d3) : St P ρ h w a d3 env2 ds2 h2 a2 w2 ρ2 where
  er := s2.er
  dr := s2.dr
  post := s1.post.trans s2.post
  size := s2.size.trans s1.size
  frame := fun t ht => (s2.frame t (fun q => ht (k2 t q))).trans (s1.frame t (fun q => ht (k1 t q)))
  defers := by
    obtain ⟨p1, e1⟩ := s1.defers
    obtain ⟨p2, e2⟩ := s2.defers
    exact ⟨p2 ++ p1, by rw [e2, e1, List.append_assoc]⟩

theorem St.weaken (s1 : St P ρ h w a d1 env1 ds1 h1 a1 w1 ρ1) (k1 : ∀ t, t ∈ d1 → t ∈ d3) : St P ρ h w a d3 env1 ds1 h1 a1 w1 ρ1 :=
  ⟨s1.er, s1.dr, s1.post, s1.size, fun t ht => s1.frame t (fun q => ht (k1 t q)), s1.defers⟩

theorem St.pre (s1 : St P ρ h w a d1 env1 ds1 h1 a1 w1 ρ1) (q : Pre P ρ h w) : Pre P ρ1 h1 w1 := s1.post.pre q

theorem CxR.mono {cx : Cx} {r : Option Nat} (hc : CxR ρ cx r) (hl : RLe ρ ρ1) : CxR ρ1 cx r := by
  unfold CxR at *
  split
  · rename_i hn; rw [hn] at hc; exact hc
  · rename_i l hn
    rw [hn] at hc
    obtain ⟨ri, h1, h2⟩ := hc
    exact ⟨ri, hl _ _ h1, h2⟩

theorem EndM.mono {o : Out} {e : Exit} {K K' : Env → List D → H → Prop} (h : EndM o e K) (hk : ∀ x y z, K x y z → K' x y z) : EndM o e K' := by
  cases o <;> simp only [EndM] at h ⊢ <;> first | exact ⟨h.1, hk _ _ _ h.2⟩ | exact h
end st

section tasks
variable {P : Program} {r : Rn}

/-- what runs the smaller tasks does so soundly -/
def Run (P : Program) (r : Rn) (K : Task → List Out → Prop) : Prop := ∀ t, Good (r t) → K t (r t)

/-- THE JUDGEMENTS that one level hands to the next one (the tasks of a region that draws and of a range over a map stand apart) -/
structure RunOk (P : Program) (r : Rn) : Prop where
  code : ∀ c cx env ds h, Good (r (.code c cx env ds h)) → CodeOk P c cx env ds h (r (.code c cx env ds h))
  ops : ∀ l all cx env ds h, Good (r (.ops l all cx env ds h)) → OpsOk P l all cx env ds h (r (.ops l all cx env ds h))
  inv : ∀ g args h, Good (r (.invoke g args h)) → InvOk P g args h (r (.invoke g args h))
  call : ∀ k args h, Good (r (.call k args h)) → CallOk P k args h (r (.call k args h))
  defs : ∀ ds h, Good (r (.defers ds h)) → DefOk P ds h (r (.defers ds h))
  loopM : ∀ c cx env ds h, Good (r (.loopM c cx env ds h)) → CodeOk P (.loop c) cx env ds h (r (.loopM c cx env ds h))

theorem kSeq_bad {b : Code} {cx : Cx} (s : String) : ∃ s', Out.bad s' ∈ kSeq b r cx (.bad s) := ⟨s, by simp [kSeq]⟩

/-- one piece of code behind another one -/
theorem seq_core {c b : Code} {cx : Cx} {env : Env} {ds : List D} {h : H} {dst : List Tmp} (R : RunOk P r) (hg : Good (bindO (r (.code c cx env ds h)) (kSeq b r cx)))
    (h1 : ∀ t, t ∈ dstsOf c → t ∈ dst) (h2 : ∀ t, t ∈ dstsOf b → t ∈ dst) :
    ∀ ρ w a rd, Pre P ρ h w → ER ρ env a.tmps → DRs ρ ds a.defers → CxR ρ cx rd → a.tmps.size = cx.n →
      c.wpIn (Fr rd) 0 P (Exit.then (b.wpIn (Fr rd) 0 P (EndOk P ρ h w a dst (bindO (r (.code c cx env ds h)) (kSeq b r cx)))) (EndOk P ρ h w a dst (bindO (r (.code c cx env ds h)) (kSeq b r cx)))) a w := by
  intro ρ w a rd q e d hc hn
  have g1 := hg.of_bind kSeq_bad
  refine wpIn_mono (R.code _ _ _ _ _ g1 ρ w a rd q e d hc hn) fun ex a1 w1 hx => ?_
  obtain ⟨o, ho, ρ1, hm⟩ := hx
  cases o with
  | nrm env1 ds1 h1' =>
    obtain ⟨rfl, st⟩ := hm
    have g2 := hg.bind ho
    simp only [kSeq] at g2
    have q1 := st.pre q
    refine wpIn_mono (R.code _ _ _ _ _ g2 ρ1 w1 a1 rd q1 st.er st.dr (hc.mono st.post.le) (st.size.trans hn)) fun ex2 a2 w2 hx2 => ?_
    obtain ⟨o2, ho2, ρ2, hm2⟩ := hx2
    exact ⟨o2, mem_bindO.2 ⟨_, ho, by simpa only [kSeq] using ho2⟩, ρ2, hm2.mono fun _ _ _ s2 => st.trans s2 h1 h2⟩
  | exit id env1 ds1 h1' =>
    obtain ⟨rfl, st⟩ := hm
    exact ⟨.exit id env1 ds1 h1', mem_bindO.2 ⟨_, ho, by simp [kSeq]⟩, ρ1, rfl, st.weaken h1⟩
  | ret env1 ds1 h1' =>
    obtain ⟨rfl, st⟩ := hm
    exact ⟨.ret env1 ds1 h1', mem_bindO.2 ⟨_, ho, by simp [kSeq]⟩, ρ1, rfl, st.weaken h1⟩
  | bad s => exact hm.elim
  | val v h => exact hm.elim

theorem code_seq {x y : Code} {cx : Cx} {env : Env} {ds : List D} {h : H} (R : RunOk P r) (hg : Good (bindO (r (.code x cx env ds h)) (kSeq y r cx))) :
    CodeOk P (.seq x y) cx env ds h (bindO (r (.code x cx env ds h)) (kSeq y r cx)) := by
  intro ρ w a rd q e d hc hn
  exact wpIn_seq (seq_core R hg (fun t ht => by simp [dstsOf, ht]) (fun t ht => by simp [dstsOf, ht]) ρ w a rd q e d hc hn)

theorem code_loop {c : Code} {cx : Cx} {env : Env} {ds : List D} {h : H} (R : RunOk P r) (hg : Good (bindO (r (.code c cx env ds h)) (kSeq (.loop c) r cx))) :
    CodeOk P (.loop c) cx env ds h (bindO (r (.code c cx env ds h)) (kSeq (.loop c) r cx)) := by
  intro ρ w a rd q e d hc hn
  exact wpIn_unroll EndOk.calm (seq_core R hg (fun t ht => by simpa [dstsOf] using ht) (fun t ht => ht) ρ w a rd q e d hc hn)

theorem code_scope {c : Code} {cx : Cx} {env : Env} {ds : List D} {h : H} (R : RunOk P r) (hg : Good (r (.code c cx env ds h))) : CodeOk P (.scope c) cx env ds h (r (.code c cx env ds h)) :=
  fun ρ w a rd q e d hc hn => wpIn_scope EndOk.calm (R.code _ _ _ _ _ hg ρ w a rd q e d hc hn)

theorem code_block {id : Nat} {c : Code} {cx : Cx} {env : Env} {ds : List D} {h : H} (R : RunOk P r) (hg : Good (bindO (r (.code c cx env ds h)) (kBlock id))) : CodeOk P (.block id c) cx env ds h (bindO (r (.code c cx env ds h)) (kBlock id)) := by
  intro ρ w a rd q e d hc hn
  have g1 := hg.of_bind (fun s => ⟨s, by simp [kBlock]⟩)
  refine wpIn_block (wpIn_mono (R.code _ _ _ _ _ g1 ρ w a rd q e d hc hn) fun ex a1 w1 hx => ?_)
  obtain ⟨o, ho, ρ1, hm⟩ := hx
  cases o with
  | nrm env1 ds1 h1' =>
    obtain ⟨rfl, st⟩ := hm
    exact ⟨.nrm env1 ds1 h1', mem_bindO.2 ⟨_, ho, by simp [kBlock]⟩, ρ1, rfl, st⟩
  | exit id' env1 ds1 h1' =>
    obtain ⟨rfl, st⟩ := hm
    show Exit.inBlock id _ (.exit id') a1 w1
    simp only [Exit.inBlock]
    by_cases hid : id' = id
    · rw [if_pos hid]
      exact ⟨.nrm env1 ds1 h1', mem_bindO.2 ⟨_, ho, by simp only [kBlock, beq_iff.2 hid]; exact List.mem_singleton.2 rfl⟩, ρ1, rfl, st⟩
    · rw [if_neg hid]
      exact ⟨.exit id' env1 ds1 h1', mem_bindO.2 ⟨_, ho, by simp only [kBlock, beq_false.2 hid]; exact List.mem_singleton.2 rfl⟩, ρ1, rfl, st⟩
  | ret env1 ds1 h1' =>
    obtain ⟨rfl, st⟩ := hm
    exact ⟨.ret env1 ds1 h1', mem_bindO.2 ⟨_, ho, by simp [kBlock]⟩, ρ1, rfl, st⟩
  | bad s => exact hm.elim
  | val v h => exact hm.elim

theorem code_cond {x : Operand} {c d : Code} {cx : Cx} {env : Env} {ds : List D} {h : H} (R : RunOk P r) (hg : Good (kCond (eval x env) c d r cx env ds h)) : CodeOk P (.cond x c d) cx env ds h (kCond (eval x env) c d r cx env ds h) := by
  intro ρ w a rd q e dd hc hn
  have hx := eval_ok q e x
  unfold kCond at *
  split at hg
  · rename_i he
    rw [he] at hx
    refine wpIn_cond_true hx (wpIn_mono (R.code _ _ _ _ _ hg ρ w a rd q e dd hc hn) fun ex a1 w1 hx => ?_)
    obtain ⟨o, ho, ρ1, hm⟩ := hx
    exact ⟨o, ho, ρ1, hm.mono fun _ _ _ st => st.weaken fun t ht => by simp [dstsOf, ht]⟩
  · rename_i he
    rw [he] at hx
    refine wpIn_cond_false hx (wpIn_mono (R.code _ _ _ _ _ hg ρ w a rd q e dd hc hn) fun ex a1 w1 hx => ?_)
    obtain ⟨o, ho, ρ1, hm⟩ := hx
    exact ⟨o, ho, ρ1, hm.mono fun _ _ _ st => st.weaken fun t ht => by simp [dstsOf, ht]⟩
  · exact hg.not_bad.elim

theorem code_region {id : Nat} {ops : Array Oper} {cx : Cx} {env : Env} {ds : List D} {h : H} (R : RunOk P r) (hg : Good (r (.ops ops.toList ops cx env ds h))) : CodeOk P (.region id ops false) cx env ds h (r (.ops ops.toList ops cx env ds h)) := by
  intro ρ w a rd q e d hc hn
  refine wpIn_region ?_
  have := R.ops _ _ _ _ _ _ hg 0 (by simp) ρ w a rd (EndOk P ρ h w a (dstsOf (.region id ops false)) (r (.ops ops.toList ops cx env ds h))) q e d hc hn (fun a' w' hh => by simpa [dstsOf] using hh)
  simpa [List.range_eq_range'] using this

/-! ## operations in a row -/
theorem semAt_fr {rd : Option Nat} {a : Act} {o : Oper} (ho : ∀ c, o.op ≠ .defer c) : o.semAt (Fr rd).round a.eval = execOp a.eval o := Oper.semAt_eq _ _ _ ho

/-- what is to be shown of the operations that follow one that has filled its temporary -/
theorem go_core {o : Oper} {rest : List Oper} {all : Array Oper} {cx : Cx} {env : Env} {ds1 : List D} {h h1 : H} {v : V} (R : RunOk P r) {i : Nat} (hl : o :: rest = all.toList.drop i) {outs : List Out}
    (hg : Good outs) (hsub : ∀ x, x ∈ goOn rest all r cx ds1 h1 (putD env cx.n o.dst v) → x ∈ outs) :
    ∀ ρ ρ1 w w1 a (x : Value) dd rd (Q : Exit → Act → World → Prop), Pre P ρ h w → ER ρ env a.tmps → CxR ρ cx rd → a.tmps.size = cx.n → VR ρ1 v x → Post P ρ h w ρ1 h1 w1 → DRs ρ1 ds1 dd → (∃ pre, dd = pre ++ a.defers) →
      (∀ a' w', EndOk P ρ h w a (dstsOps (o :: rest)) outs .normal a' w' → Q .normal a' w') →
      wpOpsIn (Fr rd) 0 P all Q (List.range' (i + 1) rest.length) (({ a with defers := dd } : Act).put o.dst x) w1 := by
  intro ρ ρ1 w w1 a x dd rd Q q e hc hn hv hp hdd hpre hQ
  have q1 := hp.pre q
  unfold goOn at hsub
  cases hput : putD env cx.n o.dst v with
  | none =>
    rw [hput] at hsub
    exact absurd rfl (hg _ (hsub _ (List.mem_singleton.2 rfl)) _)
  | some env1 =>
    rw [hput] at hsub
    simp only at hsub
    have g1 : Good (r (.ops rest all cx env1 ds1 h1)) := fun x hx => hg x (hsub x hx)
    obtain ⟨e1, e2, e3, e4⟩ := ER.put (a := { a with defers := dd }) (ER.mono hp.le e) hn hput hv
    have hrest : rest = all.toList.drop (i + 1) := by
      have := congrArg (List.drop 1) hl
      simpa [List.drop_drop, Nat.add_comm] using this
    refine R.ops _ _ _ _ _ _ g1 (i + 1) hrest ρ1 w1 _ rd Q q1 e1 (by rw [e3]; exact hdd) (hc.mono hp.le) e2 fun a' w' hx => hQ a' w' ?_
    obtain ⟨o2, ho2, ρ2, hm2⟩ := hx
    refine ⟨o2, hsub _ ho2, ρ2, hm2.mono fun env2 ds2 h2 s2 => ?_⟩
    have s1 : St P ρ h w a (o.dst.toList) env1 ds1 h1 (({ a with defers := dd } : Act).put o.dst x) w1 ρ1 :=
      ⟨e1, by rw [e3]; exact hdd, hp, e2.trans hn.symm, fun t ht => e4 t (fun d hd htd => ht (by simp [hd, htd])), by
        obtain ⟨pre, hpre⟩ := hpre
        exact ⟨pre, by rw [e3]; exact hpre⟩⟩
    refine s1.trans s2 (fun t ht => ?_) (fun t ht => ?_)
    · simp only [dstsOps]
      cases hd : o.dst with
      | none => rw [hd] at ht; simp at ht
      | some d => rw [hd] at ht; simp at ht; simp [ht]
    · simp only [dstsOps]
      cases hd : o.dst with
      | none => exact ht
      | some d => exact List.mem_cons_of_mem _ ht

theorem guard_ok {all : Array Oper} {env : Env} {g : Option (Nat × Bool)} {b : Bool} {ρ : Rho} {a : Act} {o : Oper} (hg : guardV all env g = some b) (e : ER ρ env a.tmps) (ho : o.guard = g) : Region.wanted o (yielded all a.tmps) = b := by
  unfold Region.wanted
  rw [ho]
  unfold guardV at hg
  cases g with
  | none => simp at hg; rw [hg]
  | some jw =>
    obtain ⟨j, want⟩ := jw
    simp only at hg ⊢
    have hdst : ((all[j]?).bind (·.dst)) = dstOf all j := by
      unfold dstOf
      rw [Array.getElem?_toList]
      cases all[j]? <;> rfl
    unfold yielded
    rw [hdst]
    cases hd : dstOf all j with
    | none => rw [hd] at hg; simp at hg; subst hg; rfl
    | some d =>
      rw [hd] at hg
      simp only at hg
      have hv := e d
      have hget : ∀ x, x ≠ undef → a.tmps.getD d undef = x → a.tmps[d]? = some x := by
        intro x hx hh
        simp only [Array.getD_eq_getD_getElem?] at hh
        cases hq : a.tmps[d]? with
        | none => rw [hq] at hh; exact absurd hh.symm hx
        | some y => rw [hq] at hh; simp at hh; rw [hh]
      unfold guardB at hg
      split at hg
      · rename_i b' he
        rw [he] at hv
        cases hg
        have := hget (.bool b') (by simp [undef]) hv
        simp only [Option.bind_some, this, beqB_eq]
        cases b' <;> cases want <;> rfl
      · rename_i cs he
        rw [he] at hv
        cases hg
        obtain ⟨arr, hx, _⟩ := hv
        simp only [Option.bind_some]
        have : ∀ bb, a.tmps[d]? ≠ some (.bool bb) := by
          intro bb hq
          simp only [Array.getD_eq_getD_getElem?, hq, Option.getD_some] at hx
          cases hx
        cases hq : a.tmps[d]? with
        | none => rfl
        | some y =>
          cases y with
          | bool bb => exact absurd hq (this bb)
          | _ => rfl
      · cases hg
end tasks
end Sx

namespace Sx
open Go Go.MapKept

section tasks
variable {P : Program} {r : Rn}

theorem ofValue_fn (fn : Fn) (fs cs as : Array Value) (w : World) : (Deferred.ofValue (.func fn fs cs) as).run P w = .ok { target := .fn fn cs, args := fs ++ as } w := rfl

theorem eachNext_mem {o m since : Nat} {seen : List Nat} {c : Nat} {h : H} {k : V → H → List Out} : ∀ {l : List E} {e : E}, e ∈ l → ∀ x, x ∈ k (.tup [.bool true, e.k, e.v]) (h.set o (.iter m since (seen ++ [e.b]) c)) → x ∈ eachNext o m since seen c h k l
  | e' :: l, e, he, x, hx => by
    simp only [eachNext, List.mem_append]
    rcases List.mem_cons.1 he with rfl | he
    · exact .inl hx
    · exact .inr (eachNext_mem he x hx)

/-- how the machine goes on with an operation, out of what it gives -/
theorem upon_next {o : Oper} {a : Act} {rd : Option Nat} {next : Act → World → Prop} {Q : Exit → Act → World → Prop} {ρ : Rho} {h : H} {w w1 : World} {outs : List Out} {nx : Next}
    (hn : NextOk' P ρ h w outs nx w1) (hk : ∀ x w', RetOk P ρ h w outs (.returned x) w' → next (a.put o.dst x) w') : o.uponIn (Fr rd) 0 P a next Q (.ok nx w1) := by
  have dep : (Fr rd).depth.isSome = true → 1 ≤ 0 := fun h => by simp [Fr] at h
  have ret : ∀ e w', RetOk P ρ h w outs e w' → (match e, w' with
      | .returned v, w'' => next (a.put o.dst v) w''
      | .panicked chain, w'' => Q (.panic chain) a w''
      | .outgrown, _ => LetsOut Q) := by
    intro e w' he
    have he' := he
    obtain ⟨v, h', x, ρ', _, rfl, _⟩ := he
    exact hk x w' he'
  cases nx with
  | value x => exact hk x w1 hn
  | enter f as => exact ⟨dep, CallsIn.mono (show CallsIn (Fr rd) 0 P f as w1 _ from hn) ret⟩
  | round l f tmps assign body => exact ⟨dep, RoundIn.mono (show RoundIn (Fr rd) 0 P l f tmps assign body w1 _ from hn) ret⟩
  | _ => exact hn.elim

theorem ops_nil {all : Array Oper} {cx : Cx} {env : Env} {ds : List D} {h : H} : OpsOk P [] all cx env ds h [.nrm env ds h] := by
  intro i _ ρ w a rd Q q e d hc hn hQ
  exact hQ a w ⟨.nrm env ds h, List.mem_singleton.2 rfl, ρ, rfl, St.refl q e d⟩

theorem drop_head {α : Type} {l : List α} {x : α} {rest : List α} {i : Nat} (h : x :: rest = l.drop i) : l[i]? = some x := by
  have := congrArg (fun l => l[0]?) h
  simpa using this.symm

theorem opS_defer {c : Call} {env : Env} {h : H} : ∃ s, opS (.defer c) P env h = .bad s := ⟨_, rfl⟩

/-- a simple operation that gives a value, and what follows -/
theorem one_upon {o : Oper} {a : Act} {rd : Option Nat} {next : Act → World → Prop} {Q : Exit → Act → World → Prop} {ρ : Rho} {h h' : H} {w : World} {v : V} (hs : ∀ c, o.op ≠ .defer c) (hone : OneOk P ρ h w (execOp a.eval o) v h')
    (hk : ∀ x w' ρ', VR ρ' v x → Post P ρ h w ρ' h' w' → next (a.put o.dst x) w') : o.uponIn (Fr rd) 0 P a next Q ((o.semAt (Fr rd).round a.eval).run P w) := by
  rw [semAt_fr hs]
  obtain ⟨x, w', ρ', hrun, hv, hp⟩ := hone
  rcases hrun with hrun | ⟨hrun, rfl⟩
  · rw [hrun]; exact hk x w' ρ' hv hp
  · rw [hrun]; exact hk _ w' ρ' hv hp

theorem opT_inv {op : Op} : match opT op with
    | .next => ∃ it s, op = .next it s
    | .call g args => ∃ c, op = .call c ∧ c.callee = .value g ∧ args = c.args.toList
    | .defer g args => ∃ c, op = .defer c ∧ c.callee = .value g ∧ args = c.args.toList
    | .inv g m args => ∃ c, op = .call c ∧ c.callee = .invoke g m ∧ args = c.args.toList
    | .simple => True := by
  cases op <;> simp only [opT]
  case next it s => exact ⟨it, s, rfl⟩
  case call c =>
    cases hc : c.callee <;> simp only [callT]
    all_goals exact ⟨c, rfl, hc, rfl⟩
  case defer c =>
    cases hc : c.callee <;> simp only [deferT]
    exact ⟨c, rfl, hc, rfl⟩

/-- a method of a pointer type -/
theorem run_method {t : TypeId} {m : String} {f : FuncId} (hf : methF P t m = some f) (n : Nat) (v : Value) (w : World) : (Go.method (n + 1) t v m).run P w = .ok (f, v) w := by
  unfold methF at hf
  split at hf
  · rename_i i hi
    unfold methR at hf
    split at hf
    · rename_i mm hmm
      split at hf
      · rename_i hp
        split at hf
        · rename_i f' hfn
          unfold methP at hf
          split at hf
          · rename_i e hu
            cases hf
            simp only [Go.method, Sem.run_bind, run_typeInfo _ hi, Result.andThen_ok, hmm, hp, follow, Sem.run_pure, hfn, receiverAt, run_underlying hu, Place.get]
          · cases hf
        · cases hf
      · cases hf
    · cases hf
  · cases hf

theorem run_invoke_method {t : TypeId} {m : String} {f : FuncId} (hf : methF P t m = some f) (v : Value) (as : Array Value) (w : World) :
    (invoke (.fn (.method m) #[]) (#[.iface t v] ++ as)).run P w = (callFunc f (#[v] ++ as)).run P w := by
  have h0 : (#[Value.iface t v] ++ as)[0]? = some (.iface t v) := by rw [← Array.getElem?_toList, Array.toList_append]; rfl
  have h1 : (#[Value.iface t v] ++ as).extract 1 (#[Value.iface t v] ++ as).size = as := by
    apply Array.toList_inj.1
    simp [List.extract]
  have hdep : 1 ≤ Made.depth := by decide
  obtain ⟨n, hn⟩ : ∃ n, P.types.size + Made.depth = n + 1 := ⟨P.types.size + Made.depth - 1, by omega⟩
  simp only [invoke, h0, h1, callMethod, Sem.run_bind, run_program, Result.andThen_ok, hn, run_method hf]

theorem ops_cons {o : Oper} {rest : List Oper} {all : Array Oper} {cx : Cx} {env : Env} {ds : List D} {h : H} (tk : TypesOk P) (R : RunOk P r) (hg : Good (stepOp P o rest all r cx env ds h)) : OpsOk P (o :: rest) all cx env ds h (stepOp P o rest all r cx env ds h) := by
  intro i hl ρ w a rd Q q e d hc hn hQ
  have ho : all[i]? = some o := by rw [← Array.getElem?_toList]; exact drop_head hl
  have dep : (Fr rd).depth.isSome = true → 1 ≤ 0 := fun h => by simp [Fr] at h
  simp only [List.length_cons, List.range'_succ, wpOpsIn, ho]
  have keepA : ({ a with defers := a.defers } : Act) = a := rfl
  generalize houts : stepOp P o rest all r cx env ds h = outs at hg hQ
  unfold stepOp at houts
  split at houts
  · -- the guard keeps it out
    rename_i hgd
    rw [guard_ok hgd e rfl]
    simp only [Bool.false_eq_true, if_false]
    refine ⟨fun _ _ => trivial, ?_⟩
    have := go_core R hl (ds1 := ds) (h1 := h) (v := undefV) hg (fun x hx => houts ▸ hx) ρ ρ w w a undef a.defers rd Q q e hc hn (VR.undef ρ) (Post.refl q) d ⟨[], rfl⟩ hQ
    exact this
  · rename_i hgd
    rw [guard_ok hgd e rfl]
    simp only [if_true]
    refine ⟨fun _ _ => trivial, ?_⟩
    have hinv := opT_inv (op := o.op)
    unfold stepT at houts
    split at houts
    · -- simple
      unfold opK at houts
      split at houts
      · rename_i v h' hv
        have hs : ∀ c, o.op ≠ .defer c := by
          intro c hc'
          rw [hc'] at hv
          obtain ⟨s, hs⟩ := opS_defer (P := P) (c := c) (env := env) (h := h)
          rw [hs] at hv; cases hv
        refine one_upon hs (one_ok tk q e hv) fun x w' ρ' hvr hp => ?_
        exact go_core R hl (ds1 := ds) (h1 := h') (v := v) hg (fun x hx => houts ▸ hx) ρ ρ' w w' a x a.defers rd Q q e hc hn hvr hp (d.mono hp.le) ⟨[], rfl⟩ hQ
      · rw [← houts] at hg; exact hg.not_bad.elim
      · rw [← houts] at hg; exact hg.not_bad.elim
    · -- a step of an iterator
      rename_i hop
      rw [hop] at hinv
      obtain ⟨it, isS, hop'⟩ := hinv
      have hs : ∀ c, o.op ≠ .defer c := by rw [hop']; intro c k; cases k
      unfold nextK at houts
      split at houts
      · rename_i v h' hv
        refine one_upon hs (one_ok tk q e hv) fun x w' ρ' hvr hp => ?_
        exact go_core R hl (ds1 := ds) (h1 := h') (v := v) hg (fun x hx => houts ▸ hx) ρ ρ' w w' a x a.defers rd Q q e hc hn hvr hp (d.mono hp.le) ⟨[], rfl⟩ hQ
      · rw [← houts] at hg; exact hg.not_bad.elim
      · rename_i p m since seen c l h' hv
        rw [hop'] at hv
        obtain ⟨rfl, e1, he1, hone⟩ := op_nextMany q e hop' hv
        refine one_upon hs hone fun x w' ρ' hvr hp => ?_
        exact go_core R hl (ds1 := ds) (v := .tup [.bool true, e1.k, e1.v]) hg (fun x hx => houts ▸ eachNext_mem he1 x hx) ρ ρ' w w' a x a.defers rd Q q e hc hn hvr hp (d.mono hp.le) ⟨[], rfl⟩ hQ
    · -- a call
      rename_i gx args hop
      rw [hop] at hinv
      obtain ⟨c, hop', hcal, rfl⟩ := hinv
      have hs : ∀ c, o.op ≠ .defer c := by rw [hop']; intro c k; cases k
      rw [semAt_fr hs]
      have g1 : Good (r (.invoke (eval gx env) (evals c.args.toList env) h)) := by
        rw [← houts] at hg
        exact hg.of_bind (fun s => ⟨s, by simp [kCall]⟩)
      have hargs : VRs ρ (evals c.args.toList env) (c.args.map a.eval).toList := by
        rw [Array.toList_map]; exact evals_ok q e _
      obtain ⟨dd, nx, w1, hd, hi, hnx, _⟩ := R.inv _ _ _ g1 ρ w (a.eval gx) (c.args.map a.eval) q (eval_ok q e gx) hargs
      have hrun : (execOp a.eval o).run P w = .ok nx w1 := by
        unfold execOp; rw [hop']
        simp only [resolve, hcal, Sem.run_bind, hd, Result.andThen_ok, hi]
      rw [hrun]
      refine upon_next hnx fun x w' hret => ?_
      obtain ⟨v, h', x', ρ', hmem, hx', hvr, hp⟩ := hret
      cases hx'
      refine go_core R hl (ds1 := ds) (h1 := h') (v := v) hg (fun y hy => ?_) ρ ρ' w w' a x a.defers rd Q q e hc hn hvr hp (d.mono hp.le) ⟨[], rfl⟩ hQ
      rw [← houts]
      exact mem_bindO.2 ⟨_, hmem, by simpa only [kCall] using hy⟩
    · -- a deferred call
      rename_i gx args hop
      rw [hop] at hinv
      obtain ⟨c, hop', hcal, rfl⟩ := hinv
      unfold deferK at houts
      split at houts
      · rename_i hrd
        have hr0 : rd = none := by unfold CxR at hc; rw [hrd] at hc; exact hc
        subst hr0
        split at houts
        · rename_i hfn
          have hG := eval_ok q e gx
          cases hge : eval gx env with
          | fn f fs cs =>
            rw [hge] at hG
            obtain ⟨FS, CS, hG', k1, k2⟩ := hG
            have hargs : VRs ρ (evals c.args.toList env) (c.args.map a.eval).toList := by
              rw [Array.toList_map]; exact evals_ok q e _
            have hrun : (o.semAt (Fr none).round a.eval).run P w = .ok (.defer { target := .fn (.func f) CS, args := FS ++ c.args.map a.eval }) w := by
              show (Oper.semAt none a.eval o).run P w = _
              rw [Oper.semAt_none]
              unfold execOp; rw [hop']
              simp only [resolve, hcal, hG', Sem.run_bind, ofValue_fn, Result.andThen_ok, Sem.run_pure]
            rw [hrun]
            show wpOpsIn (Fr none) 0 P all Q (List.range' (i + 1) rest.length) (({ a with defers := _ :: a.defers } : Act).put o.dst undef) w
            refine go_core R hl (ds1 := .mk (eval gx env) (evals c.args.toList env) :: ds) (h1 := h) (v := undefV) hg (fun x hx => houts ▸ hx) ρ ρ w w a undef _ none Q q e hc hn (VR.undef ρ) (Post.refl q) ⟨_, _, rfl, ?_, d⟩ ⟨[_], rfl⟩ hQ
            exact ⟨f, fs, cs, CS, hge, rfl, k2, by rw [Array.toList_append]; exact k1.append hargs⟩
          | _ => rw [hge] at hfn; simp [isFn] at hfn
        · rw [← houts] at hg; exact hg.not_bad.elim
      · rw [← houts] at hg; exact hg.not_bad.elim
    · -- a method by its name
      rename_i gx m args hop
      rw [hop] at hinv
      obtain ⟨c, hop', hcal, rfl⟩ := hinv
      have hs : ∀ c, o.op ≠ .defer c := by rw [hop']; intro c k; cases k
      rw [semAt_fr hs]
      have hargs : VRs ρ (evals c.args.toList env) (c.args.map a.eval).toList := by
        rw [Array.toList_map]; exact evals_ok q e _
      have hG := eval_ok q e gx
      have hbad : ∀ s : String, Good (bindO [.bad s] (kCall o.dst rest all r cx env ds)) → False := fun s hg => hg.not_bad
      unfold invT at houts
      split at houts
      · rename_i t v hge
        rw [hge] at hG
        obtain ⟨V, hV, hvr⟩ := hG
        unfold invM at houts
        split at houts
        · rename_i f hf
          have g1 : Good (r (.call f (v :: evals c.args.toList env) h)) := by
            rw [← houts] at hg
            exact hg.of_bind (fun s => ⟨s, by simp [kCall]⟩)
          obtain ⟨nx, w1, hi, hnx, _⟩ := R.call _ _ _ g1 ρ w (#[V] ++ c.args.map a.eval) q (by
            rw [Array.toList_append]
            exact ⟨V, (c.args.map a.eval).toList, rfl, hvr, hargs⟩)
          have hrun : (execOp a.eval o).run P w = .ok nx w1 := by
            unfold execOp; rw [hop']
            simp only [resolve, hcal, Sem.run_bind, Sem.run_pure, Result.andThen_ok, hV, run_invoke_method hf, hi]
          rw [hrun]
          refine upon_next hnx fun x w' hret => ?_
          obtain ⟨v', h', x', ρ', hmem, hx', hvr', hp⟩ := hret
          cases hx'
          refine go_core R hl (ds1 := ds) (h1 := h') (v := v') hg (fun y hy => ?_) ρ ρ' w w' a x a.defers rd Q q e hc hn hvr' hp (d.mono hp.le) ⟨[], rfl⟩ hQ
          rw [← houts]
          exact mem_bindO.2 ⟨_, hmem, by simpa only [kCall] using hy⟩
        · rw [← houts] at hg; exact (hbad _ hg).elim
      · rw [← houts] at hg; exact (hbad _ hg).elim
  · rw [← houts] at hg; exact hg.not_bad.elim

theorem ops_ok {l : List Oper} {all : Array Oper} {cx : Cx} {env : Env} {ds : List D} {h : H} (tk : TypesOk P) (R : RunOk P r) (hg : Good (opsS P l all r cx env ds h)) : OpsOk P l all cx env ds h (opsS P l all r cx env ds h) := by
  cases l with
  | nil => exact ops_nil
  | cons o rest => exact ops_cons tk R hg
end tasks
end Sx

namespace Sx
open Go Go.MapKept

section tasks
variable {P : Program} {r : Rn}

/-! ## outcomes joined -/
mutual
theorem same_eq : ∀ (a b : V), same a b = true → a = b
  | .bool p, b, hs => by
    cases b <;> simp only [same] at hs <;> first | (cases hs; done) | skip
    rw [beqB_eq] at hs; simpa using hs
  | .int j n, b, hs => by
    cases b <;> simp only [same] at hs <;> first | (cases hs; done) | skip
    split at hs
    · rename_i hj
      have hj := beqK_eq.1 hj
      rw [beqI_eq] at hs
      subst hj
      simpa using hs
    · cases hs
  | .str s, b, hs => by
    cases b <;> simp only [same] at hs <;> first | (cases hs; done) | skip
    rw [beqS_eq] at hs; simpa using hs
  | .nilp, b, hs => by cases b <;> simp only [same] at hs <;> first | (cases hs; done) | rfl
  | .ptr o i, b, hs => by
    cases b <;> simp only [same] at hs <;> first | (cases hs; done) | skip
    split at hs
    · rename_i h1
      rw [beq_iff.1 h1, beq_iff.1 hs]
    · cases hs
  | .nils, b, hs => by cases b <;> simp only [same] at hs <;> first | (cases hs; done) | rfl
  | .sl o i l c e, b, hs => by
    cases b <;> simp only [same] at hs <;> first | (cases hs; done) | skip
    split at hs
    · rename_i h1
      split at hs
      · rename_i h2
        split at hs
        · rename_i h3
          split at hs
          · rename_i h4
            rw [beqB_eq] at hs
            have h5 := eq_of_beq hs
            rw [beq_iff.1 h1, beq_iff.1 h2, beq_iff.1 h3, beq_iff.1 h4, h5]
          · cases hs
        · cases hs
      · cases hs
    · cases hs
  | .nilm, b, hs => by cases b <;> simp only [same] at hs <;> first | (cases hs; done) | rfl
  | .map o, b, hs => by
    cases b <;> simp only [same] at hs <;> first | (cases hs; done) | skip
    rw [beq_iff.1 hs]
  | .fn f p q, b, hs => by
    cases b <;> simp only [same] at hs <;> first | (cases hs; done) | skip
    split at hs
    · rename_i h1
      split at hs
      · rename_i h2
        rw [beq_iff.1 h1, sames_eq _ _ h2, sames_eq _ _ hs]
      · cases hs
    · cases hs
  | .yld o, b, hs => by
    cases b <;> simp only [same] at hs <;> first | (cases hs; done) | skip
    rw [beq_iff.1 hs]
  | .nilf, b, hs => by cases b <;> simp only [same] at hs <;> first | (cases hs; done) | rfl
  | .iface t v, b, hs => by
    cases b <;> simp only [same] at hs <;> first | (cases hs; done) | skip
    split at hs
    · rename_i h1
      rw [beq_iff.1 h1, same_eq _ _ hs]
    · cases hs
  | .nili, b, hs => by cases b <;> simp only [same] at hs <;> first | (cases hs; done) | rfl
  | .agg cs, b, hs => by
    cases b <;> simp only [same] at hs <;> first | (cases hs; done) | skip
    rw [sames_eq _ _ hs]
  | .tup cs, b, hs => by
    cases b <;> simp only [same] at hs <;> first | (cases hs; done) | skip
    rw [sames_eq _ _ hs]
  | .unk, b, hs => by cases b <;> simp [same] at hs
theorem sames_eq : ∀ (a b : List V), sames a b = true → a = b
  | [], [], _ => rfl
  | [], _ :: _, hs => by simp [sames] at hs
  | _ :: _, [], hs => by simp [sames] at hs
  | a :: as, b :: bs, hs => by
    simp only [sames] at hs
    split at hs
    · rename_i h1
      rw [same_eq _ _ h1, sames_eq _ _ hs]
    · cases hs
end

theorem sameT_eq : ∀ (a b : T V), sameT a b = true → a = b
  | .leaf, .leaf, _ => rfl
  | .leaf, .node .., hs => by simp [sameT] at hs
  | .node .., .leaf, hs => by simp [sameT] at hs
  | .node l v r, .node l' v' r', hs => by
    simp only [sameT] at hs
    split at hs
    · rename_i h1
      split at hs
      · rename_i h2
        have hv : v = v' := by
          cases v with
          | none => cases v' with | none => rfl | some _ => cases h1
          | some x => cases v' with | none => cases h1 | some y => rw [same_eq _ _ h1]
        rw [sameT_eq _ _ h2, sameT_eq _ _ hs, hv]
      · cases hs
    · cases hs

theorem sameEs_eq : ∀ (a b : List E), sameEs a b = true → a = b
  | [], [], _ => rfl
  | [], _ :: _, hs => by simp [sameEs] at hs
  | _ :: _, [], hs => by simp [sameEs] at hs
  | ⟨k, v, n⟩ :: as, ⟨k', v', n'⟩ :: bs, hs => by
    simp only [sameEs] at hs
    split at hs
    · rename_i h1
      split at hs
      · rename_i h2
        split at hs
        · rename_i h3
          rw [sameEs_eq _ _ hs, beq_iff.1 h1, same_eq _ _ h2, same_eq _ _ h3]
        · cases hs
      · cases hs
    · cases hs

theorem sameO_eq {a b : Option Nat} (hs : sameO a b = true) : a = b := by
  cases a <;> cases b <;> simp only [sameO] at hs <;> first | rfl | (cases hs; done) | (rw [beq_iff.1 hs])

theorem sameObj_eq {a b : Obj} (hs : sameObj a b = true) : a = b := by
  unfold sameObj at hs
  split at hs
  · split at hs
    · split at hs
      · rename_i h1
        split at hs
        · rename_i h2
          split at hs
          · rename_i h3
            split at hs
            · rename_i h4
              split at hs
              · rename_i h5
                split at hs
                · rename_i h6
                  rw [beqB_eq] at h3 h4
                  rw [beq_iff.1 h1, beq_iff.1 h2, eq_of_beq h3, eq_of_beq h4, sameO_eq h5, sames_eq _ _ h6, sameT_eq _ _ hs]
                · cases hs
              · cases hs
            · cases hs
          · cases hs
        · cases hs
      · cases hs
    · cases hs
  · split at hs
    · split at hs
      · rename_i h1
        rw [beq_iff.1 h1, sameEs_eq _ _ hs]
      · cases hs
    · cases hs
  · split at hs
    · rfl
    · cases hs
  · cases hs

/-- a heap of which some objects are forgotten, and its next place later -/
theorem Post.sub {ρ ρ' : Rho} {h h1 h2 : H} {w w' : World} (p : Post P ρ h w ρ' h1 w') (hs : ∀ o x, h2.get o = some x → h1.get o = some x) (hn : h1.next ≤ h2.next) (hl : h2.lim = h1.lim) (he : h2.exc = h1.exc) : Post P ρ h w ρ' h2 w' where
  le := p.le
  keep := p.keep
  fresh := fun o ho => p.fresh o (Nat.le_trans hn ho)
  next := Nat.le_trans p.next hn
  lim := hl.trans p.lim
  exc := he.trans p.exc
  hr := ⟨fun o x hx => p.hr.obj o x (hs o x hx), fun o x r o' x' r' hx hr hx' hr' => p.hr.sep o x r o' x' r' (hs o x hx) hr (hs o' x' hx') hr'⟩
  fr := p.fr
  old := fun b hb ⟨o, x, r, h1', h2', h3, h4, h5⟩ => p.old b hb ⟨o, x, r, hs o x h1', h2', by rw [H.may_iff] at h3 ⊢; rw [hl, he] at h3; exact h3, h4, h5⟩
  dom := fun o x r hx hr hb => p.dom o x r (hs o x hx) hr hb

theorem T.get_node {α : Type} (l : T α) (v : Option α) (r : T α) (i : Nat) : T.get (.node l v r) i = if i = 0 then v else if i % 2 = 1 then l.get (i / 2) else r.get (i / 2 - 1) := by
  unfold T.get
  rw [T.getF_node]
  by_cases h0 : i = 0
  · rw [if_pos h0, if_pos h0]
  · rw [if_neg h0, if_neg h0]
    by_cases h1 : i % 2 = 1
    · rw [if_pos h1, if_pos h1]; exact T.getF_enough _ _ _ _ (by omega) (by omega)
    · rw [if_neg h1, if_neg h1]; exact T.getF_enough _ _ _ _ (by omega) (by omega)

theorem meetO_some {a b : Option Obj} {x : Obj} (h : meetO a b = some x) : a = some x ∧ b = some x := by
  unfold meetO at h
  split at h
  · cases h
  · split at h
    · cases h
    · split at h
      · rename_i hs
        cases h
        rw [sameObj_eq hs]; exact ⟨rfl, rfl⟩
      · cases h

theorem meetT_get : ∀ (a b : T Obj) (i : Nat) (x : Obj), (meetT a b).get i = some x → a.get i = some x ∧ b.get i = some x
  | .leaf, b, i, x, h => by cases b <;> (simp only [meetT] at h; rw [T.get_leaf] at h; cases h)
  | .node l v r, .leaf, i, x, h => by simp only [meetT] at h; rw [T.get_leaf] at h; cases h
  | .node l v r, .node l' v' r', i, x, h => by
    simp only [meetT] at h
    rw [T.get_node] at h
    rw [T.get_node, T.get_node]
    by_cases h0 : i = 0
    · rw [if_pos h0] at h; rw [if_pos h0, if_pos h0]; exact meetO_some h
    · rw [if_neg h0] at h; rw [if_neg h0, if_neg h0]
      by_cases h1 : i % 2 = 1
      · rw [if_pos h1] at h; rw [if_pos h1, if_pos h1]; exact meetT_get l l' _ x h
      · rw [if_neg h1] at h; rw [if_neg h1, if_neg h1]; exact meetT_get r r' _ x h

theorem meetH_get {a b : H} {o : Nat} {x : Obj} (h : (meetH a b).get o = some x) : a.get o = some x ∧ b.get o = some x := by
  cases a; cases b; exact meetT_get _ _ _ _ h

theorem meetH_rest (a b : H) : (meetH a b).lim = a.lim ∧ (meetH a b).exc = a.exc ∧ a.next ≤ (meetH a b).next ∧ b.next ≤ (meetH a b).next := by
  cases a; cases b
  exact ⟨rfl, rfl, Nat.le_max_left _ _, Nat.le_max_right _ _⟩

theorem sameVH_eq {v v' : V} {h h' : H} (hs : sameVH v v' h h' = true) : v = v' ∧ h.lim = h'.lim ∧ h.exc = h'.exc := by
  unfold sameVH at hs
  split at hs
  · rename_i h1
    cases h; cases h'
    simp only [sameLE] at hs
    split at hs
    · rename_i h2
      exact ⟨same_eq _ _ h1, beq_iff.1 h2, beq_iff.1 hs⟩
    · cases hs
  · cases hs

def Has (P : Program) (ρ : Rho) (h : H) (w : World) (x : Value) (w' : World) (ρ' : Rho) (outs : List Out) : Prop :=
  ∃ v h', Out.val v h' ∈ outs ∧ VR ρ' v x ∧ Post P ρ h w ρ' h' w'

theorem joinTo_ok {ρ ρ' : Rho} {h : H} {w w' : World} {x : Value} (v : V) (hh : H) : ∀ (l : List Out), (VR ρ' v x ∧ Post P ρ h w ρ' hh w') ∨ Has P ρ h w x w' ρ' l → Has P ρ h w x w' ρ' (joinTo v hh l)
  | [], hs => by
    rcases hs with ⟨h1, h2⟩ | ⟨v', h', hm, _⟩
    · exact ⟨v, hh, List.mem_singleton.2 rfl, h1, h2⟩
    · simp at hm
  | o :: l, hs => by
    have keep : ∀ {v' h'}, Out.val v' h' ∈ o :: l → VR ρ' v' x → Post P ρ h w ρ' h' w' → (Out.val v' h' = o → Has P ρ h w x w' ρ' (joinTo v hh (o :: l))) → (∀ t, (Has P ρ h w x w' ρ' l → Has P ρ h w x w' ρ' t) → Has P ρ h w x w' ρ' t) ∨ True := fun _ _ _ _ => .inr trivial
    simp only [joinTo]
    split
    · rename_i v' h'
      split
      · rename_i hsm
        obtain ⟨rfl, hl, he⟩ := sameVH_eq hsm
        obtain ⟨m1, m2, m3, m4⟩ := meetH_rest hh h'
        rcases hs with ⟨h1, h2⟩ | ⟨v2, h2, hm, h3, h4⟩
        · exact ⟨v, _, List.mem_cons_self, h1, h2.sub (fun o x hx => (meetH_get hx).1) m3 m1 m2⟩
        · rcases List.mem_cons.1 hm with heq | hm
          · cases heq
            exact ⟨v, _, List.mem_cons_self, h3, h4.sub (fun o x hx => (meetH_get hx).2) m4 (m1.trans hl) (m2.trans he)⟩
          · exact ⟨v2, h2, List.mem_cons_of_mem _ hm, h3, h4⟩
      · rcases hs with hs | ⟨v2, h2, hm, h3, h4⟩
        · obtain ⟨v3, h3, hm3, r3⟩ := joinTo_ok v hh l (.inl hs)
          exact ⟨v3, h3, List.mem_cons_of_mem _ hm3, r3⟩
        · rcases List.mem_cons.1 hm with heq | hm
          · exact ⟨v2, h2, by rw [heq]; exact List.mem_cons_self, h3, h4⟩
          · obtain ⟨v3, h3', hm3, r3⟩ := joinTo_ok v hh l (.inr ⟨v2, h2, hm, h3, h4⟩)
            exact ⟨v3, h3', List.mem_cons_of_mem _ hm3, r3⟩
    · rcases hs with hs | ⟨v2, h2, hm, h3, h4⟩
      · obtain ⟨v3, h3, hm3, r3⟩ := joinTo_ok v hh l (.inl hs)
        exact ⟨v3, h3, List.mem_cons_of_mem _ hm3, r3⟩
      · rcases List.mem_cons.1 hm with heq | hm
        · exact ⟨v2, h2, by rw [heq]; exact List.mem_cons_self, h3, h4⟩
        · obtain ⟨v3, h3', hm3, r3⟩ := joinTo_ok v hh l (.inr ⟨v2, h2, hm, h3, h4⟩)
          exact ⟨v3, h3', List.mem_cons_of_mem _ hm3, r3⟩

theorem join_ok {ρ ρ' : Rho} {h : H} {w w' : World} {x : Value} : ∀ (l : List Out), Has P ρ h w x w' ρ' l → Has P ρ h w x w' ρ' (join l)
  | [], hs => hs
  | o :: l, ⟨v, h', hm, h1, h2⟩ => by
    simp only [join]
    split
    · rename_i v' hh
      rcases List.mem_cons.1 hm with heq | hm
      · cases heq; exact joinTo_ok _ _ _ (.inl ⟨h1, h2⟩)
      · exact joinTo_ok _ _ _ (.inr (join_ok l ⟨v, h', hm, h1, h2⟩))
    · rcases List.mem_cons.1 hm with heq | hm
      · exact ⟨v, h', by rw [heq]; exact List.mem_cons_self, h1, h2⟩
      · obtain ⟨v3, h3, hm3, r3⟩ := join_ok l ⟨v, h', hm, h1, h2⟩
        exact ⟨v3, h3, List.mem_cons_of_mem _ hm3, r3⟩

theorem joined_ok {ρ : Rho} {h : H} {w w' : World} {e : Ending} {l : List Out} (hr : RetOk P ρ h w l e w') : RetOk P ρ h w (joined l) e w' := by
  obtain ⟨v, h', x, ρ', hm, rfl, h1, h2⟩ := hr
  have hh : Has P ρ h w x w' ρ' l := ⟨v, h', hm, h1, h2⟩
  have : Has P ρ h w x w' ρ' (joined l) := by
    cases l with
    | nil => exact hh
    | cons o t =>
      cases t with
      | nil => exact hh
      | cons o' t => exact join_ok _ hh
  obtain ⟨v3, h3, hm3, r3, r4⟩ := this
  exact ⟨v3, h3, x, ρ', hm3, rfl, r3, r4⟩

theorem joinTo_bad {v : V} {h : H} {s : String} : ∀ {l : List Out}, .bad s ∈ l → .bad s ∈ joinTo v h l
  | o :: l, hm => by
    simp only [joinTo]
    split
    · split
      · rcases List.mem_cons.1 hm with heq | hm
        · cases heq
        · exact List.mem_cons_of_mem _ hm
      · rcases List.mem_cons.1 hm with heq | hm
        · cases heq
        · exact List.mem_cons_of_mem _ (joinTo_bad hm)
    · rcases List.mem_cons.1 hm with heq | hm
      · rw [heq]; exact List.mem_cons_self
      · exact List.mem_cons_of_mem _ (joinTo_bad hm)
theorem join_bad {s : String} : ∀ {l : List Out}, .bad s ∈ l → .bad s ∈ join l
  | o :: l, hm => by
    simp only [join]
    split
    · rcases List.mem_cons.1 hm with heq | hm
      · cases heq
      · exact joinTo_bad (join_bad hm)
    · rcases List.mem_cons.1 hm with heq | hm
      · rw [heq]; exact List.mem_cons_self
      · exact List.mem_cons_of_mem _ (join_bad hm)
theorem Good.of_joined {l : List Out} (hg : Good (joined l)) : Good l := by
  intro o ho s hs
  subst hs
  cases l with
  | nil => simp at ho
  | cons o t =>
    cases t with
    | nil => exact hg _ ho s rfl
    | cons o' t => exact hg _ (join_bad ho) s rfl
end tasks
end Sx

namespace Sx
open Go Go.MapKept

/-! ## calls -/
def KeepW (w w' : World) : Prop := w'.os = w.os ∧ w'.tape = w.tape ∧ w'.output = w.output ∧ w.heap.size ≤ w'.heap.size ∧ ∀ b, b < w.heap.size → w'.heap[b]? = w.heap[b]?

theorem Post.keepW {P : Program} {ρ : Rho} {h : H} {w w' : World} (q : Pre P ρ h w) (k : KeepW w w') : Post P ρ h w ρ h w' := by
  obtain ⟨k1, k2, k3, k4, k5⟩ := k
  exact ⟨RLe.refl _, fun _ _ => rfl, q.fresh, Nat.le_refl _, rfl, rfl, ⟨fun o x hx => let ⟨r, a, b⟩ := q.hr.obj o x hx; ⟨r, a, b.stays (RLe.refl _) (k5 _ b.lt)⟩, q.hr.sep⟩,
    ⟨k1, k2, k3, k4, fun b hb _ => k5 b hb⟩, fun _ _ x => x, fun o x r a b _ => ⟨o, x, r, a, b, rfl, .inl rfl⟩⟩

/-- an object dies, and its block turns -/
theorem Post.die {P : Program} {ρ : Rho} {h : H} {w w' : World} (q : Pre P ρ h w) {o : Nat} {x : Obj} {r : Ri} (hx : h.get o = some x) (hr : ρ o = some r) (hmay : h.may o = true) (hmut : x.mut = true) (hsib : x.sib = none)
    (hos : w'.os = w.os) (htape : w'.tape = w.tape) (hout : w'.output = w.output) (hsize : w'.heap.size = w.heap.size) (hblk : ∀ b, b ≠ r.blk → w'.heap[b]? = w.heap[b]?) :
    Post P ρ h w ρ (h.put o none) w' := by
  have hget : ∀ p y, (h.put o none).get p = some y → p ≠ o ∧ h.get p = some y := by
    intro p y hy
    rw [H.get_put] at hy
    by_cases e : p = o
    · rw [if_pos e] at hy; cases hy
    · rw [if_neg e] at hy; exact ⟨e, hy⟩
  have hother : ∀ p y r', p ≠ o → h.get p = some y → ρ p = some r' → r'.blk ≠ r.blk := by
    intro p y r' hne hy hr' e
    rcases q.hr.sep o x r p y r' hx hr hy hr' e.symm with k | ⟨k, _⟩
    · exact hne k.symm
    · rw [hsib] at k; cases k
  have hw : wset ρ h r.blk := ⟨o, x, r, hx, hr, hmay, hmut, rfl⟩
  refine ⟨RLe.refl _, fun _ _ => rfl, q.fresh, Nat.le_refl _, rfl, rfl, ⟨fun p y hy => ?_, fun p y r₁ p' y' r₂ hy h1 hy' h2 => q.hr.sep p y r₁ p' y' r₂ (hget p y hy).2 h1 (hget p' y' hy').2 h2⟩,
    ⟨hos, htape, hout, by omega, fun b hb hn => hblk b (fun e => hn (e ▸ hw))⟩, ?_, ?_⟩
  · obtain ⟨hne, hy'⟩ := hget p y hy
    obtain ⟨r', hr', hor⟩ := q.hr.obj p y hy'
    exact ⟨r', hr', hor.stays (RLe.refl _) (hblk _ (hother p y r' hne hy' hr'))⟩
  · rintro b hb ⟨p, y, r', hy, hr', hm, hmu, hbk⟩
    exact ⟨p, y, r', (hget p y hy).2, hr', by rw [H.may_iff] at hm ⊢; simpa using hm, hmu, hbk⟩
  · exact fun p y r' hy hr' _ => ⟨p, y, r', (hget p y hy).2, hr', rfl, .inl rfl⟩

/-- the deferred functions that do nothing on a plain return -/
def DqOk (P : Program) (dq : FuncId → Bool) : Prop := ∀ k, dq k = true → (∃ fn c, P.funcs[k]? = some fn ∧ fn.body = some c) ∧
  ∀ (args : Array Value) (w : World), CallsDIn (Fr none) 0 P k args .returning w fun e u' w' => (∃ v, e = .returned v) ∧ u' = .returning ∧ KeepW w w'

/-- no function is the runtime's counter of goroutines -/
def NoNum (P : Program) : Prop := ∀ (k : FuncId) (fn : Func), P.funcs[k]? = some fn → (fn.name == "runtime.NumGoroutine") = false

section tasks
variable {P : Program} {r : Rn}

theorem run_callFunc {k : FuncId} {fn : Func} {c : Code} (hn : NoNum P) (hf : P.funcs[k]? = some fn) (hb : fn.body = some c) (args : Array Value) (w : World) : (callFunc k args).run P w = .ok (.enter k args) w := by
  unfold callFunc
  simp only [Sem.run_bind, run_program, Result.andThen_ok, hf, hn k fn hf, hb, Option.isNone_some, Bool.false_eq_true, if_false, Sem.run_pure]

theorem defers_ok {dq : FuncId → Bool} {ds : List D} {h : H} (hdq : DqOk P dq) (hn : NoNum P) (R : RunOk P r) (hg : Good (defersS dq ds r h)) : DefOk P ds h (defersS dq ds r h) := by
  intro ρ w dd fn tmps RR q hd hres
  have dep : (Fr none).depth.isSome = true → 1 ≤ 0 := fun h => by simp [Fr] at h
  cases ds with
  | nil =>
    rw [show dd = [] from hd]
    exact hres _ _ ρ w (List.mem_singleton.2 rfl) (Post.refl q)
  | cons d ds =>
    obtain ⟨x, xs, rfl, h1, h2⟩ := hd
    cases d with
    | mk g args =>
      simp only [defersS] at hg hres
      split at hg
      · rename_i hq
        obtain ⟨f, fa, fc, cs, rfl, ht, _, _⟩ := h1
        simp only [quiet] at hq
        simp only [quiet, hq] at hres
        obtain ⟨⟨fn', c', hf', hb'⟩, hcall⟩ := hdq f hq
        refine ⟨by simp, .inr ⟨dep, .func f, cs, f, x.args ++ cs, ht, ?_, fun _ _ => trivial, ?_⟩⟩
        · rw [ht]; exact run_callFunc hn hf' hb' _ w
        · have hc := hcall (x.args ++ cs) w
          refine ⟨hc.1, fun c0 cs0 hmode hroom => ?_⟩
          obtain ⟨e, u', w', fr, hR, rest⟩ := hc.2 c0 cs0 hmode hroom
          refine ⟨e, u', w', fr, ?_, rest⟩
          obtain ⟨⟨v, rfl⟩, rfl, hk⟩ := hR
          have hp := Post.keepW q hk
          exact R.defs _ _ hg ρ w' xs fn tmps RR (hp.pre q) h2 fun v' h' ρ' w'' hm hp' => hres v' h' ρ' w'' hm (hp.trans hp')
      · exact hg.not_bad.elim
    | coll o =>
      simp only [defersS] at hg hres
      unfold collO at hg hres
      split at hg
      · rename_i hob
        split at hg
        · rename_i hmay
          obtain ⟨ri, hri, rfl⟩ := h1
          obtain ⟨ri', hri', hor⟩ := q.hr.obj _ _ hob
          rw [hri] at hri'; cases hri'
          have hb : w.heap[ri.blk]? = some (.deferred (some [])) := hor
          rw [hob] at hres
          simp only [hmay] at hres
          have hp := Post.die q hob hri hmay rfl rfl (w' := wput w ri.blk (.deferred none)) rfl rfl rfl (wput_size _ _ _) (fun b hb => wput_other _ _ _ _ hb)
          refine ⟨by simp, .inl ⟨ri.blk, wput w ri.blk (.deferred none), rfl, ?_, ?_⟩⟩
          · simp [Instr.takeDeferred, getObj, setObj, Sem.run, hb, wput]
          · exact R.defs _ _ hg ρ _ xs fn tmps RR (hp.pre q) h2 fun v' h' ρ' w'' hm hp' => hres v' h' ρ' w'' hm (hp.trans hp')
        · exact hg.not_bad.elim
      · exact hg.not_bad.elim

/-! ### results -/
theorem resultsV_ok {ρ : Rho} {h : H} {w : World} {env : Env} {tmps : Array Value} (hh : HR P ρ h w) (e : ER ρ env tmps) : ∀ {l : List ResultVar} {vs : List V}, resultsV P env h l = some vs →
    ∃ xs, (l.mapM fun (r : ResultVar) => (match r with | .tmp t => pure (tmps.getD t undef) | .cell a t => do loadVar t (← asAddr (tmps.getD a undef)) : Sem Value)).run P w = .ok xs w ∧ VRs ρ vs xs
  | [], vs, hv => by simp [resultsV] at hv; subst hv; exact ⟨[], rfl, rfl⟩
  | x :: l, vs, hv => by
    simp only [resultsV] at hv
    split at hv
    · rename_i v hx
      split at hv
      · rename_i vs' hl
        cases hv
        obtain ⟨xs, hrun, hvs⟩ := resultsV_ok hh e hl
        have : ∃ y, ((match x with | .tmp t => pure (tmps.getD t undef) | .cell a t => do loadVar t (← asAddr (tmps.getD a undef))) : Sem Value).run P w = .ok y w ∧ VR ρ v y := by
          unfold resultV at hx
          cases x with
          | tmp t => cases hx; exact ⟨_, rfl, e t⟩
          | cell a t =>
            simp only at hx
            have ha := e a
            split at hx
            · rename_i o i he
              rw [he] at ha
              obtain ⟨ri, hri, ha⟩ := ha
              obtain ⟨y, hy, hr⟩ := read_ok hh hri hx
              exact ⟨y, by simp only [ha, asAddr, Sem.run_bind, Sem.run_pure, Result.andThen_ok, hy], hr⟩
            · cases hx
        obtain ⟨y, hy, hyr⟩ := this
        exact ⟨y :: xs, by simp only [List.mapM_cons, Sem.run_bind, hy, Result.andThen_ok, hrun, Sem.run_pure], y, xs, rfl, hyr, hvs⟩
      · cases hv
    · cases hv

theorem results_ok {ρ : Rho} {h : H} {w : World} {env : Env} {tmps : Array Value} {fn : Func} {vs : List V} (hh : HR P ρ h w) (e : ER ρ env tmps) (hv : resultsV P env h fn.results.toList = some vs) :
    ∃ x, (results fn tmps).run P w = .ok x w ∧ VR ρ (tupOf vs) x := by
  obtain ⟨xs, hrun, hvs⟩ := resultsV_ok hh e hv
  have hm : (fn.results.mapM fun (r : ResultVar) => (match r with | .tmp t => pure (tmps.getD t undef) | .cell a t => do loadVar t (← asAddr (tmps.getD a undef)) : Sem Value)).run P w = .ok xs.toArray w := by
    rw [Array.mapM_eq_mapM_toList, Sem.run_map, hrun]; rfl
  have hl := hvs.length
  refine ⟨if h : xs.toArray.size = 1 then xs.toArray[0] else .tuple xs.toArray, ?_, ?_⟩
  · unfold results
    simp only [Sem.run_bind]
    have key := congrArg (fun rr : Result (Array Value) => rr.andThen fun a w' => Sem.run P (pure (if h : a.size = 1 then a[0] else .tuple a) : Sem Value) w') hm
    exact key
  · cases vs with
    | nil => rw [show xs = [] from hvs]; exact ⟨#[], rfl, rfl⟩
    | cons v vs =>
      cases vs with
      | nil =>
        obtain ⟨x, xs, rfl, h1, h2⟩ := hvs
        rw [show xs = [] from h2]
        exact h1
      | cons v' vs =>
        have : ¬ xs.toArray.size = 1 := by simp at hl; simp; omega
        rw [dif_neg this]
        exact ⟨xs.toArray, rfl, by simpa using hvs⟩

/-! ### the temporaries that a call begins with -/
theorem evT_leaf (i : Nat) : evT .leaf i = undefV := rfl

theorem argsEnv_get : ∀ (args : List V) (env : Env) (i j : Nat), evT (argsEnv env i args) j = if h : i ≤ j ∧ j < i + args.length then args[j - i]'(by omega) else evT env j
  | [], env, i, j => by simp [argsEnv]; omega
  | v :: vs, env, i, j => by
    simp only [argsEnv, argsEnv_get vs, List.length_cons]
    by_cases h : i + 1 ≤ j ∧ j < i + 1 + vs.length
    · rw [dif_pos h, dif_pos (by omega)]
      obtain ⟨m, rfl⟩ : ∃ m, j = i + (m + 1) := ⟨j - i - 1, by omega⟩
      simp [show i + (m + 1) - (i + 1) = m by omega, show i + (m + 1) - i = m + 1 by omega]
    · rw [dif_neg h, evT_set]
      by_cases e : j = i
      · subst e; simp
      · rw [if_neg e, dif_neg (by omega)]

theorem args_ER {ρ : Rho} {args : List V} {as : Array Value} (ha : VRs ρ args as.toList) (n : Nat) : ER ρ (argsEnv .leaf 0 args) (as ++ Array.replicate (n - as.size) undef) := by
  have hl := ha.length
  simp at hl
  suffices hh : ∀ i : Nat, VR ρ (evT (argsEnv .leaf 0 args) i) ((as ++ Array.replicate (n - as.size) undef).getD i undef) from hh
  intro i
  rw [argsEnv_get]
  by_cases h : 0 ≤ i ∧ i < 0 + args.length
  · rw [dif_pos h]
    have hi : i < args.length := by omega
    obtain ⟨x, hx, hr⟩ := ha.get i args[i] (List.getElem?_eq_getElem hi)
    rw [Array.getElem?_toList] at hx
    simp only [Array.getD_eq_getD_getElem?]
    rw [Array.getElem?_append, if_pos (by omega), hx]
    exact hr
  · rw [dif_neg h, evT_leaf]
    have : (as ++ Array.replicate (n - as.size) undef).getD i undef = undef := by
      simp only [Array.getD_eq_getD_getElem?]
      rw [Array.getElem?_append, if_neg (by omega)]
      simp only [Array.getElem?_replicate]
      split <;> rfl
    rw [this]
    exact VR.undef ρ

theorem call_body {k : FuncId} {fn : Func} {c : Code} {args : List V} {h : H} (hn : NoNum P) (hf : P.funcs[k]? = some fn) (hb : fn.body = some c) (R : RunOk P r)
    (hg : Good (joined (bindO (r (.code c ⟨none, k, Nat.max args.length fn.ntmps⟩ (argsEnv .leaf 0 args) [] h)) (kFun P fn r)))) :
    CallOk P k args h (joined (bindO (r (.code c ⟨none, k, Nat.max args.length fn.ntmps⟩ (argsEnv .leaf 0 args) [] h)) (kFun P fn r))) := by
  intro ρ w as q ha
  have hl := ha.length
  simp at hl
  refine ⟨.enter k as, w, run_callFunc hn hf hb as w, ?_, fun _ => ⟨rfl, rfl⟩⟩
  have g0 := hg.of_joined
  have g1 := g0.of_bind (fun s => ⟨_, List.mem_singleton.2 rfl⟩)
  refine callsIn_of_wp_marks hf hb trivial (wpIn_mono (R.code _ _ _ _ _ g1 ρ w _ none q (args_ER ha fn.ntmps) rfl rfl ?_) fun e a1 w1 hx => ?_) rfl
  · show (as ++ Array.replicate (fn.ntmps - as.size) undef).size = Nat.max args.length fn.ntmps
    rw [← hl]
    simp only [Array.size_append, Array.size_replicate]
    show as.size + (fn.ntmps - as.size) = max as.size fn.ntmps
    omega
  · have fin : ∀ env1 ds1 h1 ρ1, St P ρ h w ({ tmps := as ++ Array.replicate (fn.ntmps - as.size) undef, defers := [] } : Act) (dstsOf c) env1 ds1 h1 a1 w1 ρ1 →
        (∀ x, x ∈ bindO (r (.defers ds1 h1)) (kDef P fn env1) → x ∈ bindO (r (.code c ⟨none, k, Nat.max args.length fn.ntmps⟩ (argsEnv .leaf 0 args) [] h)) (kFun P fn r)) →
        LeavesInM (Fr none) 0 P fn a1.tmps (RetOk P ρ h w (joined (bindO (r (.code c ⟨none, k, Nat.max args.length fn.ntmps⟩ (argsEnv .leaf 0 args) [] h)) (kFun P fn r)))) a1.defers .returning w1 := by
      intro env1 ds1 h1 ρ1 st hsub
      have g2 : Good (bindO (r (.defers ds1 h1)) (kDef P fn env1)) := fun x hx => g0 x (hsub x hx)
      have g3 := g2.of_bind (fun s => ⟨s, by simp [kDef]⟩)
      refine R.defs _ _ g3 ρ1 w1 _ fn a1.tmps _ (st.pre q) st.dr fun v h2 ρ2 w2 hm hp => ?_
      have g4 := g2.bind hm
      simp only [kDef] at g4
      split at g4
      · rename_i vs hvs
        obtain ⟨x, hx, hvr⟩ := results_ok hp.hr (ER.mono hp.le st.er) hvs
        refine ⟨x, hx, joined_ok ⟨tupOf vs, h2, x, ρ2, hsub _ (mem_bindO.2 ⟨_, hm, ?_⟩), rfl, hvr, st.post.trans hp⟩⟩
        simp only [kDef, hvs]; exact List.mem_singleton.2 rfl
      · exact g4.not_bad.elim
    obtain ⟨o, ho, ρ1, hm⟩ := hx
    have hmem : ∀ x, x ∈ kFun P fn r o → x ∈ bindO (r (.code c ⟨none, k, Nat.max args.length fn.ntmps⟩ (argsEnv .leaf 0 args) [] h)) (kFun P fn r) := fun x hx => mem_bindO.2 ⟨o, ho, hx⟩
    cases o with
    | nrm env1 ds1 h1 =>
      obtain ⟨rfl, st⟩ := hm
      exact fin _ _ _ _ st hmem
    | ret env1 ds1 h1 =>
      obtain ⟨rfl, st⟩ := hm
      exact fin _ _ _ _ st hmem
    | exit id env1 ds1 h1 =>
      have := g0.bind ho
      simp only [kFun] at this
      exact this.not_bad.elim
    | bad s => exact hm.elim
    | val v h => exact hm.elim
end tasks
end Sx

namespace Sx
open Go Go.MapKept

/-- the functions that have no body -/
def ExtOk (P : Program) : Prop := ∀ (k : FuncId) (fn : Func), P.funcs[k]? = some fn → fn.body = none →
  ((fn.name == "internal/abi.NoEscape") = true → Extern.findNext fn = none ∧ Extern.find fn = some Extern.AbiNoEscape.same) ∧
  ((fn.name == "internal/bytealg.IndexByteString") = true → Extern.findNext fn = none ∧ Extern.find fn = some Extern.BytealgIndexByte.indexByte) ∧
  ((fn.name == "internal/bytealg.CountString") = true → Extern.findNext fn = none ∧ Extern.find fn = some Extern.BytealgCount.count) ∧
  ((fn.name == "maps.clone") = true → Extern.findNext fn = none ∧ Extern.find fn = some Extern.MapsClone.clone)

section tasks
variable {P : Program} {r : Rn}

theorem findIx_ok (S : ByteArray) (c : UInt8) : ∀ (s : List UInt8) (i : Nat), S.data.toList.drop i = s →
    findIx c.toNat s i = (match (List.range' i s.length).find? (fun k => S[k]! == c) with | some j => Int.ofNat j | none => -1)
  | [], i, _ => rfl
  | b :: s, i, hd => by
    have hb : S[i]! = b := by
      have h1 := congrArg (fun l => l[0]?) hd
      simp only [List.getElem?_drop, Nat.add_zero, List.getElem?_cons_zero] at h1
      obtain ⟨hlt, he⟩ := List.getElem?_eq_some_iff.1 h1
      have hlt' : i < S.size := by
        have : S.data.toList.length = S.size := rfl
        omega
      rw [getElem!_pos S i hlt']
      exact he
    have hd' : S.data.toList.drop (i + 1) = s := by
      have := congrArg (List.drop 1) hd
      simpa [List.drop_drop, Nat.add_comm] using this
    simp only [findIx, List.length_cons, List.range'_succ, List.find?_cons, hb]
    cases h : Nat.beq b.toNat c.toNat with
    | true =>
      rw [beq_iff] at h
      have := UInt8.toNat_inj.1 h
      subst this; simp
    | false =>
      rw [beq_false] at h
      have : (b == c) = false := by simpa using fun e => h (by rw [e])
      simp only [this]
      exact findIx_ok S c s (i + 1) hd'

theorem indexByte_ok (s : List UInt8) (c : Nat) (hc : c ≤ 255) (w : World) : (Extern.BytealgIndexByte.indexByte #[.string ⟨⟨s⟩⟩, .int .u8 (.ofNat c)]).run P w = .ok (.int .i64 (findIx c s 0)) w := by
  have hcc : ((Int.ofNat c).toNat.toUInt8).toNat = c := by
    show (UInt8.ofNat c).toNat = c
    simp; omega
  have key := findIx_ok ⟨⟨s⟩⟩ ((Int.ofNat c).toNat.toUInt8) s 0 rfl
  rw [hcc] at key
  refine (congrArg (fun m : Sem Value => m.run P w) (show Extern.BytealgIndexByte.indexByte #[.string ⟨⟨s⟩⟩, .int .u8 (.ofNat c)] = (Extern.Bytes.bytesOf (.string ⟨⟨s⟩⟩) >>= fun _ => Extern.Bytes.asByte (.int .u8 (.ofNat c)) >>= _) from rfl)).trans ?_
  simp only [Extern.Bytes.bytesOf, Extern.Bytes.asByte, Sem.run_bind, Sem.run_pure, Result.andThen_ok]
  rw [key, show (ByteArray.mk ⟨s⟩).size = s.length from rfl, List.range_eq_range']
  cases (List.range' 0 s.length).find? fun k => (ByteArray.mk ⟨s⟩)[k]! == (Int.ofNat c).toNat.toUInt8 with
  | none => rfl
  | some j => rfl

theorem countIx_ok (c : UInt8) : ∀ (s : List UInt8) (n : Nat), Int.ofNat (countIx c.toNat s n) = s.foldl (fun (m : Int) x => if x == c then m + 1 else m) (n : Int)
  | [], _ => rfl
  | b :: s, n => by
    unfold countIx
    rw [List.foldl_cons]
    cases h : Nat.beq b.toNat c.toNat with
    | true =>
      rw [beq_iff] at h
      have := UInt8.toNat_inj.1 h
      subst this
      simp only [beq_self_eq_true, if_true]
      exact countIx_ok b s _
    | false =>
      rw [beq_false] at h
      have : (b == c) = false := by simpa using fun e => h (by rw [e])
      simp only [this, Bool.false_eq_true, if_false]
      exact countIx_ok c s n

theorem count_ok (s : List UInt8) (c : Nat) (hc : c ≤ 255) (w : World) : (Extern.BytealgCount.count #[.string ⟨⟨s⟩⟩, .int .u8 (.ofNat c)]).run P w = .ok (.int .i64 (.ofNat (countIx c s 0))) w := by
  have hcc : ((Int.ofNat c).toNat.toUInt8).toNat = c := by
    show (UInt8.ofNat c).toNat = c
    simp; omega
  have key := countIx_ok ((Int.ofNat c).toNat.toUInt8) s 0
  rw [hcc] at key
  refine (congrArg (fun m : Sem Value => m.run P w) (show Extern.BytealgCount.count #[.string ⟨⟨s⟩⟩, .int .u8 (.ofNat c)] = (Extern.Bytes.bytesOf (.string ⟨⟨s⟩⟩) >>= fun _ => Extern.Bytes.asByte (.int .u8 (.ofNat c)) >>= _) from rfl)).trans ?_
  simp only [Extern.Bytes.bytesOf, Extern.Bytes.asByte, Sem.run_bind, Sem.run_pure, Result.andThen_ok]
  rw [key]
  unfold goInt
  rw [Lib.foldl_data]

theorem run_clone {t : TypeId} {b c : Nat} {xs : Array MapEntry} {w : World} (hb : w.heap[b]? = some (.map xs c)) :
    (Extern.MapsClone.clone #[.iface t (.map (some b))]).run P w = .ok (.iface t (.map (some w.heap.size))) { w with heap := w.heap.push (.map xs c) } := by
  refine (congrArg (fun m : Sem Value => m.run P w) (show Extern.MapsClone.clone #[.iface t (.map (some b))] = (getObj b >>= _) from rfl)).trans ?_
  simp only [Sem.run_bind, run_getObj_map hb, Result.andThen_ok, run_newObj, Sem.run_pure]

theorem ext_ok {k : FuncId} {fn : Func} {args : List V} {h : H} (hn : NoNum P) (he : ExtOk P) (hf : P.funcs[k]? = some fn) (hb : fn.body = none) (hg : Good (extK (externV fn.name args h))) : CallOk P k args h (extK (externV fn.name args h)) := by
  intro ρ w as q ha
  have run : ∀ e, Extern.findNext fn = none → Extern.find fn = some e → ∀ x, (e as).run P w = .ok x w → (callFunc k as).run P w = .ok (.value x) w := by
    intro e h1 h2 x hx
    unfold callFunc
    simp only [Sem.run_bind, run_program, Result.andThen_ok, hf, hn k fn hf, hb, Option.isNone_none, Bool.false_eq_true, if_false, if_true, run_mark, h1, h2, hx, Sem.run_pure]
  have nobody : (∃ fn' c, P.funcs[k]? = some fn' ∧ fn'.body = some c) → False := by
    rintro ⟨fn', c, h1, h2⟩
    rw [hf] at h1; cases h1
    rw [hb] at h2; cases h2
  obtain ⟨e1, e2, e3, e4⟩ := he k fn hf hb
  unfold externV at hg ⊢
  split at hg
  · rename_i hname
    obtain ⟨f1, f2⟩ := e1 hname
    split at hg
    · rename_i x
      obtain ⟨X, rfl, hx⟩ := one_arg ha
      exact ⟨.value X, w, run _ f1 f2 X rfl, ⟨x, h, X, ρ, List.mem_singleton.2 rfl, rfl, hx, Post.refl q⟩, fun hc => (nobody hc).elim⟩
    · exact hg.not_bad.elim
  · split at hg
    · rename_i hname
      obtain ⟨f1, f2⟩ := e2 hname
      split at hg
      · rename_i s c
        obtain ⟨X, Y, rfl, hx, hy⟩ := two_args ha
        rw [show X = _ from hx, show Y = _ from hy] at run ⊢
        unfold indexV at hg ⊢
        split at hg
        · rename_i hc
          have hc := ble_iff.1 hc
          exact ⟨.value _, w, run _ f1 f2 _ (indexByte_ok s c hc w), ⟨_, h, _, ρ, List.mem_singleton.2 rfl, rfl, rfl, Post.refl q⟩, fun hc => (nobody hc).elim⟩
        · exact hg.not_bad.elim
      · exact hg.not_bad.elim
    · split at hg
      · rename_i hname
        obtain ⟨f1, f2⟩ := e3 hname
        split at hg
        · rename_i s c
          obtain ⟨X, Y, rfl, hx, hy⟩ := two_args ha
          rw [show X = _ from hx, show Y = _ from hy] at run ⊢
          unfold countV at hg ⊢
          split at hg
          · rename_i hc
            have hc := ble_iff.1 hc
            exact ⟨.value _, w, run _ f1 f2 _ (count_ok s c hc w), ⟨_, h, _, ρ, List.mem_singleton.2 rfl, rfl, rfl, Post.refl q⟩, fun hc => (nobody hc).elim⟩
          · exact hg.not_bad.elim
        · exact hg.not_bad.elim
      · split at hg
        · rename_i hname
          obtain ⟨f1, f2⟩ := e4 hname
          split at hg
          · rename_i t m
            obtain ⟨X, rfl, hx⟩ := one_arg ha
            obtain ⟨V, hV, ri, hri, hVm⟩ := hx
            rw [hV, hVm] at run ⊢
            unfold cloneM at hg ⊢
            split at hg
            · rename_i es c hm
              obtain ⟨r', hr', hor⟩ := q.hr.obj _ _ (mapO_some hm)
              rw [hri] at hr'; cases hr'
              obtain ⟨xs, hb', herr⟩ := hor
              have hle := Rho.le_put (r := ⟨w.heap.size, 0, 0, 0⟩) (q.fresh h.next (Nat.le_refl _))
              have hp := Post.new q (.map es c) (.map xs c) 0 0 rfl ⟨xs, heap_push_self _ _, herr.mono hle⟩
              have hrun : (callFunc k #[.iface t (.map (some ri.blk))]).run P w = .ok (.value (.iface t (.map (some w.heap.size)))) { w with heap := w.heap.push (.map xs c) } := by
                unfold callFunc
                simp only [Sem.run_bind, run_program, Result.andThen_ok, hf, hn k fn hf, hb, Option.isNone_none, Bool.false_eq_true, if_false, if_true, run_mark, f1, f2, run_clone hb', Sem.run_pure]
              exact ⟨.value _, _, hrun, ⟨_, _, _, _, List.mem_singleton.2 rfl, rfl, ⟨_, rfl, ⟨_, Rho.put_self _ _ _, rfl⟩⟩, hp⟩, fun hc => (nobody hc).elim⟩
            · exact hg.not_bad.elim
          · exact hg.not_bad.elim
        · exact hg.not_bad.elim

/-- the calls whose contract is known -/
def CaOk (P : Program) (ca : FuncId → List V → H → Option (V × H)) : Prop := ∀ k args h v h', ca k args h = some (v, h') → CallOk P k args h [.val v h']

theorem call_ok {ca : FuncId → List V → H → Option (V × H)} {k : FuncId} {args : List V} {h : H} (hn : NoNum P) (he : ExtOk P) (hca : CaOk P ca) (R : RunOk P r) (hg : Good (callO P k args r h (ca k args h))) :
    CallOk P k args h (callO P k args r h (ca k args h)) := by
  cases hc : ca k args h with
  | some vh =>
    obtain ⟨v, h'⟩ := vh
    exact hca _ _ _ _ _ hc
  | none =>
    rw [hc] at hg
    simp only [callO] at hg ⊢
    unfold callF at hg ⊢
    cases hf : P.funcs[k]? with
    | none => rw [hf] at hg; exact hg.not_bad.elim
    | some fn =>
      rw [hf] at hg
      simp only at hg ⊢
      unfold bodyS at hg ⊢
      cases hb : fn.body with
      | none => rw [hb] at hg; exact ext_ok hn he hf hb hg
      | some c => rw [hb] at hg; exact call_body hn hf hb R hg

/-! ## rounds -/
theorem loopSet_some {h h' : H} {l : Nat} {st : LSt} {pend : Option Pend} (hs : loopSet h l st pend (h.get l) = some h') :
    ∃ fn tmps n ps a b st' pend' d, h.get l = some (.loop fn tmps n ps a b st' pend' d) ∧ h.may l = true ∧ h' = h.set l (.loop fn tmps n ps a b st pend d) := by
  unfold loopSet at hs
  split at hs
  · rename_i hg
    split at hs
    · rename_i hm
      cases hs
      exact ⟨_, _, _, _, _, _, _, _, _, hg, hm, rfl⟩
    · cases hs
  · cases hs

theorem run_getLoop {w : World} {b : Nat} {L : Loop} (hb : w.heap[b]? = some (.loop L)) : (Instr.getLoop b).run P w = .ok L w := by
  simp [Instr.getLoop, getObj, Sem.run, hb]
theorem run_setLoop {w : World} {b : Nat} {L L' : Loop} (hb : w.heap[b]? = some (.loop L)) : (setObj b (.loop L')).run P w = .ok () (wput w b (.loop L')) := by
  simp [setObj, Sem.run, hb, wput]

/-- a loop's record, turned in the model too -/
theorem loop_turn {ρ : Rho} {h h' : H} {w : World} {l : Nat} {ri : Ri} {st : LSt} {pend : Option Pend} (q : Pre P ρ h w) (hs : loopSet h l st pend (h.get l) = some h') (hr : ρ l = some ri) (st' : LoopState) (pend' : Option Code) (h1 : StR st st') (h2 : PR pend pend') :
    ∃ L, w.heap[ri.blk]? = some (.loop L) ∧ Post P ρ h w ρ h' (wput w ri.blk (.loop { L with state := st', pending := pend' })) := by
  obtain ⟨fn, tmps, n, ps, a, b, st0, pend0, d, hg, hm, rfl⟩ := loopSet_some hs
  obtain ⟨r', hr', hor⟩ := q.hr.obj _ _ hg
  rw [hr] at hr'; cases hr'
  obtain ⟨L, rd, a1, b1, b2, b3, b4, b5, b6, b7, b8, b9⟩ := hor
  exact ⟨L, a1, Post.turn' q hg hr hm rfl _ ⟨{ L with state := st', pending := pend' }, rd, wput_same _ _ _ (lt_of_get a1), b1, b2, b3, h1, h2, b6, b7, b8, b9⟩ rfl rfl rfl (wput_size _ _ _) (fun b hb => wput_other _ _ _ _ hb)⟩

theorem paramsEnv_ok {ρ : Rho} {n : Nat} : ∀ {ps : List Tmp} {vs : List V} {xs : List Value} {env : Env} {tmps : Array Value}, allLt n ps = true → vs.length = ps.length → VRs ρ vs xs → ER ρ env tmps → tmps.size = n →
    ER ρ (paramsEnv env ps vs) ((ps.zip xs).foldl (fun (tmps : Array Value) (t, a) => tmps.setIfInBounds t a) tmps) ∧ ((ps.zip xs).foldl (fun (tmps : Array Value) (t, a) => tmps.setIfInBounds t a) tmps).size = n
  | [], vs, xs, env, tmps, _, hl, _, he, hn => by
    cases vs with
    | nil => exact ⟨he, hn⟩
    | cons => simp at hl
  | p :: ps, [], xs, env, tmps, _, hl, _, _, _ => by simp at hl
  | p :: ps, v :: vs, xs, env, tmps, hlt, hl, hx, he, hn => by
    obtain ⟨x, xs, rfl, h1, h2⟩ := hx
    simp only [allLt] at hlt
    split at hlt
    · rename_i hp
      have hput : putD env n (some p) v = some (env.set p (some v)) := by simp only [putD, hp]
      obtain ⟨e1, e2, _⟩ := ER.put (a := { tmps := tmps, defers := [] }) he hn hput h1
      simp only [paramsEnv, List.zip_cons_cons, List.foldl_cons]
      exact paramsEnv_ok hlt (by simpa using hl) h2 e1 e2
    · cases hlt

theorem yield_ok {l : Nat} {args : List V} {h : H} (R : RunOk P r) (hg : Good (yieldO l args r h (h.get l))) : InvOk P (.yld l) args h (yieldO l args r h (h.get l)) := by
  intro ρ w G as q hG ha
  obtain ⟨ri, hri, rfl⟩ := hG
  unfold yieldO at hg ⊢
  cases hgl : h.get l with
  | none => rw [hgl] at hg; exact hg.not_bad.elim
  | some x =>
    rw [hgl] at hg
    cases x with
    | loop fn tmps n ps assign body st pend d =>
      simp only at hg ⊢
      obtain ⟨r', hr', hor⟩ := q.hr.obj _ _ hgl
      rw [hri] at hr'; cases hr'
      obtain ⟨L, rd, hb, b1, b2, b3, b4, b5, b6, b7, b8, b9⟩ := hor
      split at hg
      · exact hg.not_bad.elim
      · rename_i hlen
        split at hg
        · exact hg.not_bad.elim
        · rename_i hlt
          have hlen' := beq_iff.1 hlen
          have hal := ha.length
          simp at hal
          have hps : as.size = L.params.size := by rw [b1]; simp at hlen'; omega
          refine ⟨{ target := .fn (.yield ri.blk) #[], args := #[] ++ as }, .round ri.blk L.fn ((L.params.zip as).foldl (fun tmps (t, a) => tmps.setIfInBounds t a) L.tmps) L.assign L.body, w, ofValue_fn _ _ _ _ _, ?_, ?_, fun hh => by simp [hasBody] at hh⟩
          · simp only [invoke, Instr.yield, Array.empty_append, Sem.run_bind, run_getLoop hb, Result.andThen_ok, hps, ne_eq, not_true_eq_false, if_false, Sem.run_pure]
          · refine roundIn_of_wpIn (F := Fr none) trivial ?_
            rw [Fr_in]
            have htm : (L.params.zip as).foldl (fun (tmps : Array Value) (t, a) => tmps.setIfInBounds t a) L.tmps = (ps.toList.zip as.toList).foldl (fun (tmps : Array Value) (t, a) => tmps.setIfInBounds t a) L.tmps := by
              rw [← Array.foldl_toList, b1]; simp
            obtain ⟨p1, p2⟩ := paramsEnv_ok hlt hlen' ha b8 b9
            have g1 := hg.of_bind (k := kAssign l fn n body r) (fun s => ⟨s, by simp [kAssign]⟩)
            have hcx : CxR ρ ⟨some l, fn, n⟩ (some ri.blk) := ⟨ri, hri, rfl⟩
            rw [b2, b3, htm]
            refine wpIn_mono (R.code _ _ _ _ _ g1 ρ w { tmps := _, defers := [] } (some ri.blk) q p1 rfl hcx p2) fun e1 a1 w1 hx1 => ?_
            obtain ⟨o1, ho1, ρ1, hm1⟩ := hx1
            have g2 := hg.bind ho1
            cases o1 with
            | nrm env1 ds1 h1 =>
              obtain ⟨rfl, st1⟩ := hm1
              have q1 := st1.pre q
              cases ds1 with
              | cons dd ds => simp only [kAssign] at g2; exact g2.not_bad.elim
              | nil =>
                simp only [kAssign] at g2
                split at g2
                · rename_i hrdy
                  have hri1 := st1.post.le _ _ hri
                  cases hls : loopSet h1 l .busy none (h1.get l) with
                  | none => rw [hls] at g2; exact g2.not_bad.elim
                  | some h2 =>
                    rw [hls] at g2
                    simp only [bodyR] at g2
                    -- the round begins
                    have hrdy2 : ∃ L1 : Loop, w1.heap[ri.blk]? = some (.loop L1) ∧ L1.state = .ready ∧ L1.pending = none := by
                      unfold isReady at hrdy
                      split at hrdy
                      · rename_i hgg
                        obtain ⟨r', hr', hor⟩ := q1.hr.obj _ _ hgg
                        rw [hri1] at hr'; cases hr'
                        obtain ⟨L1, rd1, c0, c1, c2, c3, c4, c5, _⟩ := hor
                        exact ⟨L1, c0, c4, c5⟩
                      · cases hrdy
                    obtain ⟨L1, hb1, hst1, hpd1⟩ := hrdy2
                    obtain ⟨L1', hb1', p2'⟩ := loop_turn q1 hls hri1 .busy none rfl rfl
                    rw [hb1] at hb1'; cases hb1'
                    have hbegin : (Instr.beginRound ri.blk).run P w1 = .ok () (wput w1 ri.blk (.loop { L1 with state := .busy, pending := none })) := by
                      have hsame : ({ L1 with state := .busy } : Loop) = { L1 with state := .busy, pending := none } := by cases L1; simp_all
                      simp only [Instr.beginRound, Sem.run_bind, run_getLoop hb1, Result.andThen_ok, run_setLoop hb1, hst1, hsame, Sem.run_pure]
                    refine ⟨_, hbegin, ?_⟩
                    have q2 := p2'.pre q1
                    have g3 := g2.of_bind (k := kBody l) (fun s => ⟨s, by simp [kBody]⟩)
                    have hd1 : a1.defers = [] := st1.dr
                    refine wpIn_mono (R.code _ _ _ _ _ g3 ρ1 _ a1 (some ri.blk) q2 st1.er (by rw [hd1]; exact rfl) ⟨ri, hri1, rfl⟩ (st1.size.trans p2)) fun e2 a2 w3 hx2 => ?_
                    obtain ⟨o2, ho2, ρ2, hm2⟩ := hx2
                    have g4 := g2.bind ho2
                    -- how the round ends
                    have fin : ∀ (env2 : Env) (ds2 : List D) (h3 : H) (st : LSt) (pd : Option Pend) (bb : Bool) (jump : Option Code),
                        St P ρ1 h2 (wput w1 ri.blk (.loop { L1 with state := .busy, pending := none })) a1 (dstsOf body) env2 ds2 h3 a2 w3 ρ2 → kBody l o2 = yields bb (loopSet h3 l st pd (h3.get l)) → PR pd jump → StR st (if jump.isNone then .ready else .done) → bb = jump.isNone →
                        ∃ v w', (Instr.endRound ri.blk jump).run P w3 = .ok v w' ∧ RetOk P ρ h w (bindO (r (.code assign ⟨some l, fn, n⟩ (paramsEnv tmps ps.toList args) [] h)) (kAssign l fn n body r)) (.returned v) w' := by
                      intro env2 ds2 h3 st pd bb jump st2 hk hpr hstr hbb
                      rw [hk] at g4
                      cases hls2 : loopSet h3 l st pd (h3.get l) with
                      | none => rw [hls2] at g4; exact g4.not_bad.elim
                      | some h4 =>
                        have hri2 := st2.post.le _ _ hri1
                        obtain ⟨L3, hb3, p3⟩ := loop_turn (st2.pre q2) hls2 hri2 (if jump.isNone then .ready else .done) jump hstr hpr
                        refine ⟨.bool jump.isNone, _, ?_, .bool bb, h4, .bool jump.isNone, ρ2, ?_, rfl, by rw [hbb]; rfl, ((st1.post.trans p2').trans st2.post).trans p3⟩
                        · simp only [Instr.endRound, Sem.run_bind, run_getLoop hb3, Result.andThen_ok, run_setLoop hb3, Sem.run_pure]
                        · refine mem_bindO.2 ⟨_, ho1, ?_⟩
                          simp only [kAssign, hrdy, hls, bodyR]
                          exact mem_bindO.2 ⟨_, ho2, by rw [hk, hls2]; exact List.mem_singleton.2 rfl⟩
                    cases o2 with
                    | nrm env2 ds2 h3 =>
                      obtain ⟨rfl, st2⟩ := hm2
                      exact fin env2 ds2 h3 .ready none true none st2 rfl rfl rfl rfl
                    | ret env2 ds2 h3 =>
                      obtain ⟨rfl, st2⟩ := hm2
                      exact fin env2 ds2 h3 .done (some .ret) false (some .ret) st2 rfl rfl rfl rfl
                    | exit id env2 ds2 h3 =>
                      obtain ⟨rfl, st2⟩ := hm2
                      exact fin env2 ds2 h3 .done (some (.exit id)) false (some (.exit id)) st2 rfl rfl rfl rfl
                    | bad s => exact hm2.elim
                    | val v h => exact hm2.elim
                · exact g2.not_bad.elim
            | exit id env1 ds1 h1 => simp only [kAssign] at g2; exact g2.not_bad.elim
            | ret env1 ds1 h1 => simp only [kAssign] at g2; exact g2.not_bad.elim
            | bad s => exact hm1.elim
            | val v h => exact hm1.elim
    | _ => exact hg.not_bad.elim
end tasks
end Sx

namespace Sx
open Go Go.MapKept

section tasks
variable {P : Program} {r : Rn}

theorem invoke_ok {g : V} {args : List V} {h : H} (R : RunOk P r) (hg : Good (invokeS g args r h)) : InvOk P g args h (invokeS g args r h) := by
  cases g with
  | fn k first captured =>
    simp only [invokeS] at hg ⊢
    intro ρ w G as q hG ha
    obtain ⟨FS, CS, rfl, k1, k2⟩ := hG
    have hargs : VRs ρ (first ++ (args ++ captured)) ((FS ++ as) ++ CS).toList := by
      rw [Array.toList_append, Array.toList_append, List.append_assoc]
      exact k1.append (ha.append k2)
    obtain ⟨nx, w1, h1, h2, h3⟩ := R.call _ _ _ hg ρ w ((FS ++ as) ++ CS) q hargs
    refine ⟨{ target := .fn (.func k) CS, args := FS ++ as }, nx, w1, ofValue_fn _ _ _ _ _, h1, h2, fun hb => ?_⟩
    simp only [hasBody] at hb
    split at hb
    · rename_i fn hf
      split at hb
      · rename_i c hc
        obtain ⟨e1, e2⟩ := h3 ⟨fn, c, hf, hc⟩
        exact ⟨_, _, e1, e2⟩
      · cases hb
    · cases hb
  | yld l => exact yield_ok R hg
  | _ => exact hg.not_bad.elim

/-- what the record of a loop over a function begins as -/
theorem range_core {g : Operand} {ps : Array Tmp} {assign body : Code} {cx : Cx} {env : Env} {ds mark : List D} {dfr : Nat} {h h1 : H} (R : RunOk P r)
    (hg : Good (cRange1 (eval g env) ps assign body P r cx env ds mark dfr h1)) {ρ ρ1 : Rho} {w w1 : World} {a : Act} {rd : Option Nat} {rdf : Ri} {cmark : List Deferred} {fn0 : FuncId}
    (q : Pre P ρ h w) (e : ER ρ env a.tmps) (d : DRs ρ ds a.defers) (hn : a.tmps.size = cx.n) (p1 : Post P ρ h w ρ1 h1 w1) (hdf : ρ1 dfr = some rdf) (hmk : ∀ l, DRs ρ1 l a.defers → True)
    (hds : DRs ρ1 (mark ++ ds) (cmark ++ a.defers))
    (he : (Instr.enterLoop fn0 a.tmps ps assign body (Fr rd).round).run P w = .ok (w1.heap.size, cmark) { w1 with heap := w1.heap.push (.loop { state := .ready, pending := none, fn := fn0, tmps := a.tmps, params := ps, assign := assign, body := body, defers := rdf.blk }) }) :
    ∃ (l : Nat) (mk : List Deferred) (w₁ : World) (d : Deferred) (w₁' : World) (f : FuncId) (args : Array Value) (w₂ : World),
      (Instr.enterLoop fn0 a.tmps ps assign body (Fr rd).round).run P w = .ok (l, mk) w₁ ∧
      (resolve a.eval (rangeCall g l) 0).run P w₁ = .ok d w₁' ∧
      (∀ f', Target.leads P w₁' d.target d.args = some f' → (Fr rd).fn f') ∧
      (invoke d.target d.args).run P w₁' = .ok (.enter f args) w₂ ∧
      ((Fr rd).depth.isSome = true → 1 ≤ 0) ∧
      CallsIn (Fr rd) (0 - 1) P f args w₂ (rangePost (Fr rd) 0 P l (EndOk P ρ h w a [] (cRange1 (eval g env) ps assign body P r cx env ds mark dfr h1)) { a with defers := mk ++ a.defers }) := by
  have q1 := p1.pre q
  unfold cRange1 at hg ⊢
  split at hg
  · rename_i hbody
    have g1 := hg.of_bind (k := kRange h1.next1 mark ds env) (fun s => ⟨s, by simp [kRange]⟩)
    let L : Loop := { state := .ready, pending := none, fn := fn0, tmps := a.tmps, params := ps, assign := assign, body := body, defers := rdf.blk }
    have p2 : Post P ρ1 h1 w1 (ρ1.put h1.next ⟨w1.heap.size, 0, 0, 0⟩) (h1.new (.loop cx.fn env cx.n ps assign body .ready none dfr)) { w1 with heap := w1.heap.push (.loop L) } := by
      refine Post.new' q1 _ (.loop L) 0 0 ⟨L, rdf, heap_push_self _ _, rfl, rfl, rfl, rfl, rfl, Rho.le_put (q1.fresh _ (Nat.le_refl _)) _ _ hdf, rfl, ?_, hn⟩
      exact ER.mono (Rho.le_put (q1.fresh _ (Nat.le_refl _))) (ER.mono p1.le e)
    have q2 := p2.pre q1
    have e2 := ER.mono p2.le (ER.mono p1.le e)
    have hG : VR (ρ1.put h1.next ⟨w1.heap.size, 0, 0, 0⟩) (eval g env) (a.eval g) := eval_ok q2 e2 g
    have hargs : VRs (ρ1.put h1.next ⟨w1.heap.size, 0, 0, 0⟩) [V.yld h1.next1] (#[Value.func (.yield w1.heap.size) #[] #[]] : Array Value).toList := ⟨_, _, rfl, ⟨_, Rho.put_self _ _ _, rfl⟩, rfl⟩
    obtain ⟨dd, nx, w3, hd, hi, hnx, hb⟩ := R.inv _ _ _ g1 _ _ (a.eval g) #[Value.func (.yield w1.heap.size) #[] #[]] q2 hG hargs
    obtain ⟨f, as', rfl, rfl⟩ := hb hbody
    refine ⟨w1.heap.size, cmark, _, dd, _, f, as', _, he, ?_, fun _ _ => trivial, hi, fun h => by simp [Fr] at h, ?_⟩
    · have hmap : (#[Operand.const (.func (.yield w1.heap.size) #[] #[])] : Array Operand).map a.eval = #[Value.func (.yield w1.heap.size) #[] #[]] := by simp [Act.eval]
      simp only [resolve, hmap]
      exact hd
    · refine CallsIn.mono (show CallsIn (Fr rd) 0 P f as' _ _ from hnx) fun ee w4 hret => ?_
      obtain ⟨v, h3, x, ρ3, hmem, rfl, hvr, p3⟩ := hret
      have q3 := p3.pre q2
      have g2 := hg.bind hmem
      simp only [kRange] at g2
      have hl3 : ρ3 h1.next1 = some ⟨w1.heap.size, 0, 0, 0⟩ := p3.le _ _ (Rho.put_self _ _ _)
      have memb : ∀ o, o ∈ kRange2 h1.next1 mark ds env h3 (h3.get h1.next1) → o ∈ bindO (r (.invoke (eval g env) [.yld h1.next1] (h1.new (.loop cx.fn env cx.n ps assign body .ready none dfr)))) (kRange h1.next1 mark ds env) :=
        fun o ho => mem_bindO.2 ⟨_, hmem, by simpa only [kRange] using ho⟩
      generalize bindO (r (.invoke (eval g env) [.yld h1.next1] (h1.new (.loop cx.fn env cx.n ps assign body .ready none dfr)))) (kRange h1.next1 mark ds env) = outs at memb hg
      unfold kRange2 at g2 memb
      cases hob : h3.get h1.next1 with
      | none => rw [hob] at g2; exact g2.not_bad.elim
      | some ob =>
        rw [hob] at g2 memb
        cases ob with
        | loop fn' t' n' ps' a' b' st pend d' =>
          simp only at g2 memb
          obtain ⟨r', hr', hor⟩ := q3.hr.obj _ _ hob
          rw [hl3] at hr'; cases hr'
          obtain ⟨L3, rd3, c0, c1, c2, c3, c4, c5, c6, c7, c8, c9⟩ := hor
          have fin : st ≠ .busy → Good (loopOver mark ds env pend (loopSet h3 h1.next1 .over pend (h3.get h1.next1))) → (∀ o, o ∈ loopOver mark ds env pend (loopSet h3 h1.next1 .over pend (h3.get h1.next1)) → o ∈ outs) →
              rangePost (Fr rd) 0 P w1.heap.size (EndOk P ρ h w a [] outs) { a with defers := cmark ++ a.defers } (.returned x) w4 := by
            intro hst hgood hmm
            cases hls : loopSet h3 h1.next1 .over pend (h3.get h1.next1) with
            | none => rw [hls] at hgood; exact hgood.not_bad.elim
            | some h4 =>
              rw [hls] at hmm
              obtain ⟨L4, hb4, p4⟩ := loop_turn q3 hls hl3 .exhausted L3.pending rfl c5
              rw [c0] at hb4; cases hb4
              have hstate : (L3.state == LoopState.busy) = false := by
                cases st with
                | busy => exact absurd rfl hst
                | ready => rw [c4]; rfl
                | done => rw [c4]; rfl
                | over => rw [c4]; rfl
              have hend : (Instr.endLoop w1.heap.size).run P w4 = .ok L3.pending (wput w4 w1.heap.size (.loop { L3 with state := .exhausted, pending := L3.pending })) := by
                simp only [Instr.endLoop, Sem.run_bind, run_getLoop c0, Result.andThen_ok, hstate, Bool.false_eq_true, if_false, run_setLoop c0, Sem.run_pure]
              have pall := ((p1.trans p2).trans p3).trans p4
              have hl13 : RLe ρ1 ρ3 := p2.le.trans p3.le
              have st' : St P ρ h w a [] env (mark ++ ds) h4 { a with defers := cmark ++ a.defers } (wput w4 w1.heap.size (.loop { L3 with state := .exhausted, pending := L3.pending })) ρ3 :=
                ⟨ER.mono hl13 (ER.mono p1.le e), hds.mono hl13, pall, rfl, fun _ _ => rfl, ⟨cmark, rfl⟩⟩
              refine ⟨L3.pending, _, hend, ?_⟩
              cases pend with
              | none =>
                rw [show L3.pending = none from c5] at st' ⊢
                exact ⟨.nrm env (mark ++ ds) h4, hmm _ (List.mem_singleton.2 rfl), ρ3, rfl, st'⟩
              | some pd =>
                cases pd with
                | ret =>
                  rw [show L3.pending = some .ret from c5] at st' ⊢
                  exact wpIn_ret ⟨.ret env (mark ++ ds) h4, hmm _ (List.mem_singleton.2 rfl), ρ3, rfl, st'⟩
                | exit id =>
                  rw [show L3.pending = some (.exit id) from c5] at st' ⊢
                  exact wpIn_exit ⟨.exit id env (mark ++ ds) h4, hmm _ (List.mem_singleton.2 rfl), ρ3, rfl, st'⟩
          rw [hob] at fin
          cases st with
          | busy => exact g2.not_bad.elim
          | ready => exact fin (by simp) g2 memb
          | done => exact fin (by simp) g2 memb
          | over => exact fin (by simp) g2 memb
        | _ => exact g2.not_bad.elim
  · exact hg.not_bad.elim

theorem code_range {g : Operand} {ps : Array Tmp} {assign body : Code} {cx : Cx} {env : Env} {ds : List D} {h : H} (R : RunOk P r) (hg : Good (cRange g ps assign body P r cx env ds h)) : CodeOk P (.rangeFunc g ps assign body) cx env ds h (cRange g ps assign body P r cx env ds h) := by
  intro ρ w a rd q e d hc hn
  show (Code.rangeFunc g ps assign body).wpIn (Fr rd) 0 P (EndOk P ρ h w a [] (cRange g ps assign body P r cx env ds h)) a w
  unfold cRange at hg ⊢
  cases hrd : cx.rd with
  | none =>
    rw [hrd] at hg
    have hr0 : rd = none := by unfold CxR at hc; rw [hrd] at hc; exact hc
    subst hr0
    simp only at hg ⊢
    refine wpIn_rangeFunc fun fn0 _ => ?_
    have p1 : Post P ρ h w (ρ.put h.next ⟨w.heap.size, 0, 0, 0⟩) (h.new .dfr) { w with heap := w.heap.push (.deferred (some [])) } := Post.new' q .dfr (.deferred (some [])) 0 0 (heap_push_self _ _)
    refine range_core R hg q e d hn p1 (Rho.put_self _ _ _) (fun _ _ => trivial) (cmark := [{ target := .collected w.heap.size, args := #[] }]) ?_ ?_
    · exact ⟨_, _, rfl, ⟨_, Rho.put_self _ _ _, rfl⟩, d.mono p1.le⟩
    · simp only [Instr.enterLoop, Fr, Sem.run_bind, run_newObj, Result.andThen_ok, Sem.run_pure]
  | some l0 =>
    rw [hrd] at hg
    obtain ⟨ri, hri, hrd'⟩ : ∃ ri, ρ l0 = some ri ∧ rd = some ri.blk := by unfold CxR at hc; rw [hrd] at hc; exact hc
    subst hrd'
    simp only at hg ⊢
    cases hdf : dfrO (h.get l0) with
    | none => rw [hdf] at hg; exact hg.not_bad.elim
    | some dd =>
      rw [hdf] at hg
      simp only at hg ⊢
      unfold dfrO at hdf
      split at hdf
      · rename_i hob
        cases hdf
        obtain ⟨r', hr', hor⟩ := q.hr.obj _ _ hob
        rw [hri] at hr'; cases hr'
        obtain ⟨L0, rd0, c0, c1, c2, c3, c4, c5, c6, c7, c8, c9⟩ := hor
        refine wpIn_rangeFunc fun fn0 _ => ?_
        refine range_core R hg q e d hn (Post.refl q) c6 (fun _ _ => trivial) (cmark := []) d ?_
        simp only [Instr.enterLoop, Fr, Sem.run_bind, run_getLoop c0, run_newObj, Result.andThen_ok, Sem.run_pure, c7]
      · cases hdf
end tasks
end Sx

namespace Sx
open Go Go.MapKept

section tasks
variable {P : Program} {r : Rn}

/-! ## a loop over a map -/
/-- one round of the loop in which 'next' has given v -/
def RoundOk (P : Program) (c : Code) (v : V) (cx : Cx) (env : Env) (ds : List D) (h : H) (outs : List Out) : Prop :=
  ∀ id ops draw o l b, c = .seq (.region id ops draw) b → ops.toList = o :: l →
    ∀ ρ w a rd (x : Value) (Q : Exit → Act → World → Prop), Pre P ρ h w → ER ρ env a.tmps → DRs ρ ds a.defers → CxR ρ cx rd → a.tmps.size = cx.n → VR ρ v x →
      (∀ e a1 w1, EndOk P ρ h w a (dstsOf c) outs e a1 w1 → Q e a1 w1) →
      wpOpsIn (Fr rd) 0 P ops (Exit.then (b.wpIn (Fr rd) 0 P Q) Q) (List.range' 1 l.length) (a.put o.dst x) w

theorem roundR_ok {c : Code} {v : V} {cx : Cx} {env : Env} {ds : List D} {h : H} (R : RunOk P r) (hg : Good (roundR v r cx env ds h (restOf c))) : RoundOk P c v cx env ds h (roundR v r cx env ds h (restOf c)) := by
  intro id ops draw o l b hc hl ρ w a rd x Q q e d hcx hn hv hQ
  have hrest : restOf c = some (ops, o.dst, l, b) := by
    subst hc; simp only [restOf, hl]
  rw [hrest] at hg hQ
  simp only [roundR] at hg hQ
  unfold roundGo at hg hQ
  cases hput : putD env cx.n o.dst v with
  | none => rw [hput] at hg; exact hg.not_bad.elim
  | some env1 =>
    rw [hput] at hg hQ
    simp only at hg hQ
    obtain ⟨e1, e2, e3, e4⟩ := ER.put e hn hput hv
    have g1 := hg.of_bind (k := kSeq b r cx) kSeq_bad
    have hdrop : l = ops.toList.drop 1 := by rw [hl]; rfl
    have s0 : St P ρ h w a (o.dst.toList) env1 ds h (a.put o.dst x) w ρ :=
      ⟨e1, by rw [e3]; exact d, Post.refl q, e2.trans hn.symm, fun t ht => e4 t (fun dd hd htd => ht (by simp [hd, htd])), ⟨[], by rw [e3]; rfl⟩⟩
    have k0 : ∀ t, t ∈ o.dst.toList → t ∈ dstsOf c := by
      intro t ht
      subst hc
      simp only [dstsOf, hl, dstsOps]
      cases hd : o.dst with
      | none => rw [hd] at ht; simp at ht
      | some dd => rw [hd] at ht; simp at ht; simp [ht]
    have k1 : ∀ t, t ∈ dstsOps l → t ∈ dstsOf c := by
      intro t ht
      subst hc
      simp only [dstsOf, hl, dstsOps]
      cases hd : o.dst with
      | none => simp [ht]
      | some dd => simp [ht]
    have k2 : ∀ t, t ∈ dstsOf b → t ∈ dstsOf c := by
      intro t ht
      subst hc
      simp [dstsOf, ht]
    refine R.ops _ _ _ _ _ _ g1 1 hdrop ρ w _ rd _ q e1 (by rw [e3]; exact d) hcx e2 fun a1 w1 hx => ?_
    obtain ⟨o1, ho1, ρ1, hm1⟩ := hx
    cases o1 with
    | nrm env2 ds2 h2 =>
      obtain ⟨_, st1⟩ := hm1
      have g2 := hg.bind ho1
      simp only [kSeq] at g2
      refine wpIn_mono (R.code _ _ _ _ _ g2 ρ1 w1 a1 rd (st1.pre q) st1.er st1.dr (hcx.mono st1.post.le) (st1.size.trans e2)) fun ex a2 w2 hx2 => hQ _ _ _ ?_
      obtain ⟨o2, ho2, ρ2, hm2⟩ := hx2
      refine ⟨o2, mem_bindO.2 ⟨_, ho1, by simpa only [kSeq] using ho2⟩, ρ2, hm2.mono fun _ _ _ s2 => ?_⟩
      exact (s0.trans st1 k0 k1).trans s2 (fun t ht => ht) k2
    | exit id env2 ds2 h2 => exact absurd hm1.1 (by simp)
    | ret env2 ds2 h2 => exact absurd hm1.1 (by simp)
    | bad s => exact hm1.elim
    | val v h => exact hm1.elim

/-- a round that leaves all as it was -/
def Qt (P : Program) (it : It) (c : Code) (cx : Cx) (env : Env) (ds : List D) (h : H) (k : E) : Prop :=
  ∃ qs, allNrm ds.length qs = true ∧ RoundOk P c (.tup [.bool true, k.k, k.v]) cx env ds ((frozen h).set it.o (.iterAft it.m k.b it.c)) qs
/-- a round that leaves the loop -/
def Ex (P : Program) (it : It) (c : Code) (cx : Cx) (env : Env) (ds : List D) (h : H) (outs : List Out) (k : E) : Prop :=
  ∃ es, noNrm es = true ∧ RoundOk P c (.tup [.bool true, k.k, k.v]) cx env ds (h.set it.o (.iterAft it.m k.b it.c)) es ∧ ∀ o ∈ es, o ∈ outs
def Ov (P : Program) (it : It) (c : Code) (cx : Cx) (env : Env) (ds : List D) (h : H) (outs : List Out) : Prop :=
  ∃ es, noNrm es = true ∧ RoundOk P c (.tup [.bool false]) cx env ds (h.put it.o none) es ∧ ∀ o ∈ es, o ∈ outs

def IterOk (P : Program) (it : It) (left : List E) (must : Bool) (c : Code) (cx : Cx) (env : Env) (ds : List D) (h : H) (outs : List Out) : Prop :=
  (∀ k ∈ left, Qt P it c cx env ds h k ∨ Ex P it c cx env ds h outs k) ∧ (must = true ∨ (∃ k ∈ left, Ex P it c cx env ds h outs k) ∨ Ov P it c cx env ds h outs)

theorem allNrm_good {n : Nat} : ∀ {l : List Out}, allNrm n l = true → Good l
  | [], _ => fun o ho => by simp at ho
  | o :: l, h => by
    intro x hx s hs
    subst hs
    cases o with
    | nrm env ds hh =>
      simp only [allNrm] at h
      split at h
      · rcases List.mem_cons.1 hx with k | k
        · cases k
        · exact allNrm_good h _ k s rfl
      · cases h
    | _ => simp [allNrm] at h
theorem noNrm_good : ∀ {l : List Out}, noNrm l = true → Good l
  | [], _ => fun o ho => by simp at ho
  | o :: l, h => by
    intro x hx s hs
    subst hs
    cases o <;> simp only [noNrm] at h
    all_goals first
      | (cases h; done)
      | (rcases List.mem_cons.1 hx with k | k
         · cases k
         · exact noNrm_good h _ k s rfl)
theorem noNrm_mem : ∀ {l : List Out} {env : Env} {ds : List D} {h : H}, noNrm l = true → Out.nrm env ds h ∉ l
  | [], _, _, _, _ => by simp
  | o :: l, env, ds, hh, h => by
    intro hx
    cases o <;> simp only [noNrm] at h
    all_goals first
      | (cases h; done)
      | (rcases List.mem_cons.1 hx with k | k
         · cases k
         · exact noNrm_mem h k)
theorem allNrm_mem {n : Nat} : ∀ {l : List Out} {o : Out}, allNrm n l = true → o ∈ l → ∃ env ds h, o = .nrm env ds h ∧ ds.length = n
  | x :: l, o, h, ho => by
    cases x with
    | nrm env ds hh =>
      simp only [allNrm] at h
      split at h
      · rename_i hb
        rcases List.mem_cons.1 ho with k | k
        · exact ⟨env, ds, hh, k, beq_iff.1 hb⟩
        · exact allNrm_mem h k
      · cases h
    | _ => simp [allNrm] at h

/-- one more judgement that one level hands to the next one -/
structure RunOk2 (P : Program) (r : Rn) : Prop extends RunOk P r where
  iter : ∀ it left must c cx env ds h, Good (r (.iter it left must c cx env ds h)) → IterOk P it left must c cx env ds h (r (.iter it left must c cx env ds h))

theorem iter_ok {it : It} {left : List E} {must : Bool} {c : Code} {cx : Cx} {env : Env} {ds : List D} {h : H} (R : RunOk2 P r) (hg : Good (iterS it left must c r cx env ds h)) : IterOk P it left must c cx env ds h (iterS it left must c r cx env ds h) := by
  cases left with
  | nil =>
    simp only [iterS] at hg ⊢
    cases must with
    | true => exact ⟨fun k hk => by simp at hk, .inl rfl⟩
    | false =>
      simp only at hg ⊢
      refine ⟨fun k hk => by simp at hk, .inr (.inr ?_)⟩
      unfold overR outsIf at hg ⊢
      split at hg
      · rename_i hno
        exact ⟨_, hno, roundR_ok R.toRunOk (noNrm_good hno), fun o ho => ho⟩
      · exact hg.not_bad.elim
  | cons k left =>
    simp only [iterS] at hg ⊢
    unfold iterK at hg ⊢
    cases hall : allNrm ds.length (roundE it k c r cx env ds (frozen h)) with
    | true =>
      rw [hall] at hg
      simp only at hg ⊢
      obtain ⟨i1, i2⟩ := R.iter _ _ _ _ _ _ _ _ hg
      have hq : Qt P it c cx env ds h k := ⟨_, hall, roundR_ok R.toRunOk (allNrm_good hall)⟩
      refine ⟨fun k' hk' => ?_, ?_⟩
      · rcases List.mem_cons.1 hk' with rfl | hk'
        · exact .inl hq
        · exact i1 k' hk'
      · rcases i2 with i2 | ⟨k', hk', i2⟩ | i2
        · exact .inl i2
        · exact .inr (.inl ⟨k', List.mem_cons_of_mem _ hk', i2⟩)
        · exact .inr (.inr i2)
    | false =>
      rw [hall] at hg
      simp only at hg ⊢
      unfold iterK2 at hg ⊢
      cases hno : noNrm (roundE it k c r cx env ds h) with
      | false => rw [hno] at hg; exact hg.not_bad.elim
      | true =>
        rw [hno] at hg
        simp only at hg ⊢
        have g2 : Good (r (.iter it left true c cx env ds h)) := fun o ho => hg o (List.mem_append_right _ ho)
        obtain ⟨i1, _⟩ := R.iter _ _ _ _ _ _ _ _ g2
        have hex : Ex P it c cx env ds h (roundE it k c r cx env ds h ++ r (.iter it left true c cx env ds h)) k :=
          ⟨_, hno, roundR_ok R.toRunOk (noNrm_good hno), fun o ho => List.mem_append_left _ ho⟩
        refine ⟨fun k' hk' => ?_, .inr (.inl ⟨k, List.mem_cons_self, hex⟩)⟩
        rcases List.mem_cons.1 hk' with rfl | hk'
        · exact .inr hex
        · rcases i1 k' hk' with i | ⟨es, j1, j2, j3⟩
          · exact .inl i
          · exact .inr ⟨es, j1, j2, fun o ho => List.mem_append_right _ (j3 o ho)⟩

/-! ### a step of the iterator, in the model -/
theorem run_next_map {w : World} {b bm since last c : Nat} {seen : Array Nat} {xs : Array MapEntry} {ty : TypeId} (hbk : w.heap[b]? = some (.mapIter (some bm) since seen last)) (hb : w.heap[bm]? = some (.map xs c))
    (hall : ∀ x ∈ xs.toList, x.born < since) (hst : (!seen.isEmpty && !xs.isEmpty && xs.all (fun e => decide (e.born ≥ last))) = false) :
    ((xs.filter fun e => !seen.contains e.born) = #[] → (Instr.next (.pointer (some ⟨b, 0, none⟩)) false ty).run P w = .ok (.tuple #[.bool false]) w) ∧
    ((xs.filter fun e => !seen.contains e.born) ≠ #[] → ∃ x n, x ∈ (xs.filter fun e => !seen.contains e.born) ∧
      (Instr.next (.pointer (some ⟨b, 0, none⟩)) false ty).run P w = .ok (.tuple #[.bool true, x.key, x.val]) (wput { w with drawn := n } b (.mapIter (some bm) since (seen.push x.born) c))) := by
  have c1 : ((xs.filter fun e => !seen.contains e.born).filter fun e => decide (e.born < since)) = (xs.filter fun e => !seen.contains e.born) := by
    rw [Array.filter_eq_self]
    intro x hx
    rw [Array.mem_filter] at hx
    simpa using hall x (by simpa using hx.1)
  have c2 : ((xs.filter fun e => !seen.contains e.born).filter fun e => decide (e.born ≥ since)) = #[] := by
    rw [Array.filter_eq_empty_iff]
    intro x hx
    rw [Array.mem_filter] at hx
    have := hall x (by simpa using hx.1)
    simp; omega
  generalize hL : (xs.filter fun e => !seen.contains e.born) = L at c1 c2
  have core : (Instr.next (.pointer (some ⟨b, 0, none⟩)) false ty).run P w =
      ((do
        let candidates := (if L.isEmpty then #[none] else #[]) ++ (L ++ #[]).map some
        match candidates[← choose (.mapNext candidates.size)]? with
        | some (some e) =>
          setObj b (.mapIter (some bm) since (seen.push e.born) c)
          pure (.tuple #[.bool true, e.key, e.val])
        | some none => pure (.tuple #[.bool false])
        | none => stuck "Next: no such candidate") : Sem Value).run P w := by
    simp only [Instr.next, Sem.run_bind, run_getIter hbk, Result.andThen_ok, run_getObj_map hb, hst, Bool.false_eq_true, if_false, Sem.run_pure, hL, c1, c2]
    rfl
  constructor
  · rintro rfl
    rw [core]
    simp [Question.forced]
  · intro hne
    have hpos : 0 < L.size := by
      rcases Nat.eq_zero_or_pos L.size with h0 | h0
      · exact absurd (Array.size_eq_zero_iff.1 h0) hne
      · exact h0
    have hemp : L.isEmpty = false := by
      cases hh : L.isEmpty with
      | false => rfl
      | true => exact absurd (Array.isEmpty_iff.1 hh) hne
    have hcs : ((if L.isEmpty = true then #[none] else #[]) ++ (L ++ #[]).map some : Array (Option MapEntry)) = L.map some := by rw [hemp]; simp
    have go : ∀ (i : Nat) (n : Nat), i < L.size →
        ∃ x, x ∈ L ∧ ((match (L.map some)[i]? with
          | some (some e) => do
            setObj b (.mapIter (some bm) since (seen.push e.born) c)
            pure (.tuple #[.bool true, e.key, e.val])
          | some none => pure (.tuple #[.bool false])
          | none => stuck "Next: no such candidate") : Sem Value).run P { w with drawn := n } = .ok (.tuple #[.bool true, x.key, x.val]) (wput { w with drawn := n } b (.mapIter (some bm) since (seen.push x.born) c)) := by
      intro i n hi
      have hx : L[i]? = some L[i] := by simp [hi]
      have hbk1 : ({ w with drawn := n } : World).heap[b]? = some (.mapIter (some bm) since seen last) := hbk
      refine ⟨L[i], by simp, ?_⟩
      simp only [Array.getElem?_map, hx, Option.map_some, Sem.run_bind, run_setIter _ hbk1, Result.andThen_ok, Sem.run_pure]
    rw [core]
    simp only [hcs, Sem.run_bind, run_choose]
    split
    · obtain ⟨x, hx, g1⟩ := go 0 w.drawn hpos
      exact ⟨x, w.drawn, hx, g1⟩
    · have hlt := mapNext_cut (L.map some).size (w.tape w.drawn (.mapNext (L.map some).size)) (by simpa using hpos)
      obtain ⟨x, hx, g1⟩ := go ((Question.mapNext (L.map some).size).cut (w.tape w.drawn (.mapNext (L.map some).size))) (w.drawn + 1) (Nat.lt_of_lt_of_eq hlt (Array.size_map ..))
      exact ⟨x, w.drawn + 1, hx, g1⟩
end tasks
end Sx

namespace Sx
open Go Go.MapKept

section tasks
variable {P : Program} {r : Rn}

theorem forget_get : ∀ (l : List Tmp) (env : Env) (t : Tmp), evT (forget env l) t = if t ∈ l then .unk else evT env t
  | [], env, t => by simp [forget]
  | d :: l, env, t => by
    simp only [forget, forget_get l, evT_set]
    by_cases h1 : t ∈ l
    · simp [h1]
    · by_cases h2 : t = d
      · simp [h1, h2]
      · simp [h1, h2]

theorem freshB_ok {n : Nat} : ∀ {l : List E}, freshB n l = true → ∀ e ∈ l, e.b ≠ n
  | [], _, e, he => by simp at he
  | x :: l, h, e, he => by
    simp only [freshB] at h
    split at h
    · cases h
    · rename_i hb
      rcases List.mem_cons.1 he with rfl | he
      · exact beq_false.1 hb
      · exact freshB_ok h e he
theorem distinctB_ok : ∀ {l : List E}, distinctB l = true → ∀ e ∈ l, ∀ e' ∈ l, e.b = e'.b → e = e'
  | [], _, e, he, _, _, _ => by simp at he
  | x :: l, h, e, he, e', he', hb => by
    simp only [distinctB] at h
    split at h
    · rename_i hf
      rcases List.mem_cons.1 he with h1 | h1
      · rcases List.mem_cons.1 he' with h2 | h2
        · rw [h1, h2]
        · subst h1; exact absurd hb.symm (freshB_ok hf e' h2)
      · rcases List.mem_cons.1 he' with h2 | h2
        · subst h2; exact absurd hb (freshB_ok hf e h1)
        · exact distinctB_ok h e h1 e' h2 hb
    · cases h

theorem ErR.mem {ρ : Rho} : ∀ {es : List E} {xs : List MapEntry}, ErR ρ es xs → ∀ x ∈ xs, ∃ e ∈ es, VR ρ e.k x.key ∧ VR ρ e.v x.val ∧ x.born = e.b
  | [], xs, h, x, hx => by rw [show xs = [] from h] at hx; simp at hx
  | e :: es, xs, h, x, hx => by
    obtain ⟨y, ys, rfl, h1, h2, h3, h4⟩ := h
    rcases List.mem_cons.1 hx with rfl | hx
    · exact ⟨e, List.mem_cons_self, h1, h2, h3⟩
    · obtain ⟨e', he', r⟩ := ErR.mem h4 x hx
      exact ⟨e', List.mem_cons_of_mem _ he', r⟩
theorem ErR.mem' {ρ : Rho} : ∀ {es : List E} {xs : List MapEntry}, ErR ρ es xs → ∀ e ∈ es, ∃ x ∈ xs, VR ρ e.k x.key ∧ VR ρ e.v x.val ∧ x.born = e.b
  | [], xs, h, e, he => by simp at he
  | e0 :: es, xs, h, e, he => by
    obtain ⟨y, ys, rfl, h1, h2, h3, h4⟩ := h
    rcases List.mem_cons.1 he with rfl | he
    · exact ⟨y, List.mem_cons_self, h1, h2, h3⟩
    · obtain ⟨x, hx, r⟩ := ErR.mem' h4 e he
      exact ⟨x, List.mem_cons_of_mem _ hx, r⟩

/-- what the executor has seen at the head of such a loop -/
theorem iterOf_some {c : Code} {env : Env} {h : H} {it : It} (hi : iterOf c env h = some it) :
    ∃ id ops b o l itx es since last, c = .seq (.region id ops false) b ∧ ops.toList = o :: l ∧ o.guard = none ∧ o.op = .next itx false ∧ eval itx env = .ptr it.o 0 ∧
      h.get it.o = some (.iter it.m since [] last) ∧ h.may it.o = true ∧ mapO (h.get it.m) = some (es, it.c) ∧ leftOf since [] es = some it.l ∧ distinctB it.l = true ∧ anyOld it.c it.l = true := by
  unfold iterOf at hi
  split at hi
  · rename_i a b
    split at hi
    · rename_i id ops draw
      unfold iterOps at hi
      split at hi
      · cases hi
      · split at hi
        · rename_i o l hl
          split at hi
          · rename_i hgd
            unfold iterHead at hi
            split at hi
            · rename_i itx hop
              split at hi
              · rename_i p he
                unfold iterO at hi
                split at hi
                · rename_i m since seen last hob
                  split at hi
                  · rename_i hmay
                    split at hi
                    · rename_i es cl hmo
                      unfold iterL at hi
                      split at hi
                      · split at hi
                        · rename_i x y z l' hleft
                          split at hi
                          · rename_i hdis
                            split at hi
                            · rename_i hold
                              cases hi
                              exact ⟨id, ops, b, o, l, itx, es, since, last, rfl, hl, hgd, hop, he, hob, hmay, hmo, hleft, hdis, hold⟩
                            · cases hi
                          · cases hi
                        · cases hi
                      · cases hi
                    · cases hi
                  · cases hi
                · cases hi
              · cases hi
            · cases hi
          · cases hi
        · cases hi
    · cases hi
  · cases hi

theorem frozen_get (h : H) (o : Nat) : (frozen h).get o = h.get o := by cases h; rfl
theorem frozen_next (h : H) : (frozen h).next = h.next := by cases h; rfl
theorem frozen_lim (h : H) : (frozen h).lim = h.next := by cases h; rfl
theorem frozen_exc (h : H) : (frozen h).exc = h.next := by cases h; rfl

theorem filter_push {xs : Array MapEntry} {seen : Array Nat} {x : MapEntry} (hx : x ∈ xs.filter fun e => !seen.contains e.born) :
    (xs.filter fun e => !(seen.push x.born).contains e.born).size < (xs.filter fun e => !seen.contains e.born).size := by
  have h1 : (xs.filter fun e => !(seen.push x.born).contains e.born) = (xs.filter fun e => !seen.contains e.born).filter fun e => !(e.born == x.born) := by
    rw [Array.filter_filter]
    congr 1
    funext e
    simp only [Array.contains_push]
    cases seen.contains e.born <;> cases h : (e.born == x.born) <;> simp
  rw [h1]
  rcases Nat.lt_or_ge ((xs.filter fun e => !seen.contains e.born).filter fun e => !(e.born == x.born)).size (xs.filter fun e => !seen.contains e.born).size with h2 | h2
  · exact h2
  · have h3 := Array.size_filter_le (p := fun e : MapEntry => !(e.born == x.born)) (xs := xs.filter fun e => !seen.contains e.born)
    have h4 : ((xs.filter fun e => !seen.contains e.born).filter fun e => !(e.born == x.born)) = (xs.filter fun e => !seen.contains e.born) := by
      apply Array.toList_inj.1
      rw [Array.toList_filter]
      apply List.Sublist.eq_of_length List.filter_sublist
      rw [← Array.toList_filter]
      simp only [Array.length_toList]
      omega
    have h5 := (Array.filter_eq_self.1 h4) x hx
    simp at h5

/-- how many entries are still to come -/
def iterMu (xs : Array MapEntry) (b : Nat) (w : World) : Nat := match w.heap[b]? with
  | some (.mapIter _ _ seen _) => (xs.filter fun e => !seen.contains e.born).size
  | _ => 0

structure IterSt (P : Program) (ρ : Rho) (w : World) (a : Act) (it : It) (c : Code) (ok : E → Prop) (ri rm : Ri) (since : Nat) (a' : Act) (w' : World) : Prop where
  seen : ∃ seen last, w'.heap[ri.blk]? = some (.mapIter (some rm.blk) since seen last) ∧ (seen ≠ #[] → last = it.c) ∧ ∀ b ∈ seen, ∃ k ∈ it.l, ok k ∧ k.b = b
  os : w'.os = w.os
  tape : w'.tape = w.tape
  output : w'.output = w.output
  size : w.heap.size ≤ w'.heap.size
  block : ∀ b, b < w.heap.size → b ≠ ri.blk → w'.heap[b]? = w.heap[b]?
  tmps : a'.tmps.size = a.tmps.size
  frame : ∀ t, t ∉ dstsOf c → a'.tmps.getD t undef = a.tmps.getD t undef
  defers : a'.defers = a.defers

theorem code_iter {c : Code} {cx : Cx} {env : Env} {ds : List D} {h : H} {it : It} {outs : List Out} (hi : iterOf c (forget env (dstsOf c)) h = some it) (I : IterOk P it it.l false c cx (forget env (dstsOf c)) ds h outs) : CodeOk P (.loop c) cx env ds h outs := by
  intro ρ w a rd q e0 d hcx hn
  obtain ⟨id, ops, b, o, l, itx, es, since, last, hc, hl, hgd, hop, hev, hob, hmay, hmo, hleft, hdis, hold⟩ := iterOf_some hi
  have henv : ∀ a' : Act, (∀ t, t ∉ dstsOf c → a'.tmps.getD t undef = a.tmps.getD t undef) → ER ρ (forget env (dstsOf c)) a'.tmps := by
    intro a' hf t
    rw [forget_get]
    by_cases ht : t ∈ dstsOf c
    · rw [if_pos ht]; trivial
    · rw [if_neg ht, hf t ht]; exact e0 t
  generalize henv' : forget env (dstsOf c) = env' at hi I hev henv
  obtain ⟨ri, hri, hor⟩ := q.hr.obj _ _ hob
  obtain ⟨rm, hrm, hbk, hoff⟩ := hor
  obtain ⟨xs, hb, her⟩ := map_block q.hr hrm hmo
  obtain ⟨hall, hleft'⟩ := leftOf_ok hleft her
  have hxsl : (xs.toList.filter fun e => !([] : List Nat).contains e.born) = xs.toList := by simp
  rw [hxsl] at hleft'
  have hne : rm.blk ≠ ri.blk := by
    intro k
    rw [k, hbk] at hb; cases hb
  have hrib : ri.blk < w.heap.size := lt_of_get hbk
  have hrmb : rm.blk < w.heap.size := lt_of_get hb
  -- others stand in other blocks
  have hother : ∀ p y r', p ≠ it.o → h.get p = some y → ρ p = some r' → r'.blk ≠ ri.blk := by
    intro p y r' hne hy hr' k
    rcases q.hr.sep it.o _ ri p y r' hob hri hy hr' k.symm with k | ⟨k, _⟩
    · exact hne k.symm
    · simp [Obj.sib] at k
  have hset : ∀ b, b < w.heap.size → ¬ wset ρ h b → b ≠ ri.blk := fun b hb hw k => hw ⟨it.o, _, ri, hob, hri, hmay, rfl, k.symm⟩
  have hget : ∀ p y, (h.put it.o none).get p = some y → p ≠ it.o ∧ h.get p = some y := by
    intro p y hy
    rw [H.get_put] at hy
    by_cases k : p = it.o
    · rw [if_pos k] at hy; cases hy
    · rw [if_neg k] at hy; exact ⟨k, hy⟩
  -- the state at the loop's head
  have post0 : ∀ (w' : World), w'.os = w.os → w'.tape = w.tape → w'.output = w.output → w.heap.size ≤ w'.heap.size → (∀ b, b < w.heap.size → b ≠ ri.blk → w'.heap[b]? = w.heap[b]?) → Post P ρ h w ρ (h.put it.o none) w' := by
    intro w' k1 k2 k3 k4 k5
    refine ⟨RLe.refl _, fun _ _ => rfl, q.fresh, Nat.le_refl _, rfl, rfl, ⟨fun p y hy => ?_, fun p y r₁ p' y' r₂ hy h1 hy' h2 => q.hr.sep p y r₁ p' y' r₂ (hget p y hy).2 h1 (hget p' y' hy').2 h2⟩, ⟨k1, k2, k3, k4, fun b hb hw => k5 b hb (hset b hb hw)⟩, ?_, ?_⟩
    · obtain ⟨hne', hy'⟩ := hget p y hy
      obtain ⟨r', hr', hor'⟩ := q.hr.obj p y hy'
      exact ⟨r', hr', hor'.stays (RLe.refl _) (k5 _ hor'.lt (hother p y r' hne' hy' hr'))⟩
    · rintro b hb ⟨p, y, r', hy, hr', hm, hmu, hbk'⟩
      exact ⟨p, y, r', (hget p y hy).2, hr', by rw [H.may_iff] at hm ⊢; simpa using hm, hmu, hbk'⟩
    · exact fun p y r' hy hr' _ => ⟨p, y, r', (hget p y hy).2, hr', rfl, .inl rfl⟩
  have post1 : ∀ (w' : World) (k : E) (seen : Array Nat), w'.os = w.os → w'.tape = w.tape → w'.output = w.output → w.heap.size ≤ w'.heap.size → (∀ b, b < w.heap.size → b ≠ ri.blk → w'.heap[b]? = w.heap[b]?) →
      w'.heap[ri.blk]? = some (.mapIter (some rm.blk) since (seen.push k.b) it.c) → Post P ρ h w ρ (h.set it.o (.iterAft it.m k.b it.c)) w' := by
    intro w' k seen k1 k2 k3 k4 k5 k6
    have hget' : ∀ p y, (h.set it.o (.iterAft it.m k.b it.c)).get p = some y → (p = it.o ∧ y = .iterAft it.m k.b it.c) ∨ (p ≠ it.o ∧ h.get p = some y) := by
      intro p y hy
      rw [H.get_set] at hy
      by_cases kk : p = it.o
      · rw [if_pos kk] at hy; exact .inl ⟨kk, (Option.some.inj hy).symm⟩
      · rw [if_neg kk] at hy; exact .inr ⟨kk, hy⟩
    refine ⟨RLe.refl _, fun _ _ => rfl, q.fresh, Nat.le_refl _, rfl, rfl, ⟨fun p y hy => ?_, fun p y r₁ p' y' r₂ hy h1 hy' h2 heq => ?_⟩, ⟨k1, k2, k3, k4, fun b hb hw => k5 b hb (hset b hb hw)⟩, ?_, ?_⟩
    · rcases hget' p y hy with ⟨rfl, rfl⟩ | ⟨hne', hy'⟩
      · exact ⟨ri, hri, rm, since, seen, hrm, k6, hoff⟩
      · obtain ⟨r', hr', hor'⟩ := q.hr.obj p y hy'
        exact ⟨r', hr', hor'.stays (RLe.refl _) (k5 _ hor'.lt (hother p y r' hne' hy' hr'))⟩
    · rcases hget' p y hy with ⟨rfl, rfl⟩ | ⟨hne', hy1⟩
      · rcases hget' p' y' hy' with ⟨rfl, rfl⟩ | ⟨hne'', hy2⟩
        · exact .inl rfl
        · rw [hri] at h1; cases h1
          exact absurd heq.symm (hother p' y' r₂ hne'' hy2 h2)
      · rcases hget' p' y' hy' with ⟨rfl, rfl⟩ | ⟨hne'', hy2⟩
        · rw [hri] at h2; cases h2
          exact absurd heq (hother p y r₁ hne' hy1 h1)
        · exact q.hr.sep p y r₁ p' y' r₂ hy1 h1 hy2 h2 heq
    · rintro b hb ⟨p, y, r', hy, hr', hm, hmu, hbk'⟩
      rcases hget' p y hy with ⟨rfl, rfl⟩ | ⟨hne', hy'⟩
      · exact ⟨_, _, ri, hob, hri, hmay, rfl, by rw [hri] at hr'; cases hr'; exact hbk'⟩
      · exact ⟨p, y, r', hy', hr', by rw [H.may_iff] at hm ⊢; simpa using hm, hmu, hbk'⟩
    · intro p y r' hy hr' _
      rcases hget' p y hy with ⟨rfl, rfl⟩ | ⟨hne', hy'⟩
      · exact ⟨_, _, r', hob, hr', rfl, .inl rfl⟩
      · exact ⟨p, y, r', hy', hr', rfl, .inl rfl⟩
  have hitx : ∀ a' : Act, (∀ t, t ∉ dstsOf c → a'.tmps.getD t undef = a.tmps.getD t undef) → a'.eval itx = .pointer (some ⟨ri.blk, 0, none⟩) := by
    intro a' hf
    have := eval_ok (a := a') q (henv a' hf) itx
    rw [hev] at this
    obtain ⟨r', hr', hx⟩ := this
    rw [hri] at hr'; cases hr'
    rw [hx, hoff]
  refine wpIn_loop (IterSt P ρ w a it c (fun k => ¬ Ex P it c cx env' ds h outs k) ri rm since) (fun _ w' => iterMu xs ri.blk w')
    ⟨⟨#[], last, hbk, fun k => absurd rfl k, fun b hb => by simp at hb⟩, rfl, rfl, rfl, Nat.le_refl _, fun _ _ _ => rfl, rfl, fun _ _ => rfl, rfl⟩ ?_
  intro a' w' S
  obtain ⟨seen, last', hbk', hlast, hseen⟩ := S.seen
  have hb' : w'.heap[rm.blk]? = some (.map xs it.c) := by rw [S.block _ hrmb hne]; exact hb
  have hst : (!seen.isEmpty && !xs.isEmpty && xs.all (fun e => decide (e.born ≥ last'))) = false := by
    cases hse : seen.isEmpty with
    | true => rfl
    | false =>
      have hne' : seen ≠ #[] := by
        rintro rfl; simp at hse
      rw [hlast hne']
      have := anyOld_ok hold hleft'
      rw [Array.all_toList] at this
      rw [this]; simp
  obtain ⟨n1, n2⟩ := run_next_map (P := P) (ty := o.type) hbk' hb' hall hst
  subst hc
  have ho0 : ops[0]? = some o := by rw [← Array.getElem?_toList, hl]; rfl
  have hsize : ops.size = l.length + 1 := by
    have := congrArg List.length hl
    simpa using this
  have hs : ∀ cc, o.op ≠ .defer cc := by rw [hop]; intro cc k; cases k
  -- the region begins with the step
  suffices hh : ∀ Q0 : Exit → Act → World → Prop, Q0 = Exit.then (fun a'' w'' => IterSt P ρ w a it (.seq (.region id ops false) b) (fun k => ¬ Ex P it (.seq (.region id ops false) b) cx env' ds h outs k) ri rm since a'' w'' ∧
        iterMu xs ri.blk w'' < iterMu xs ri.blk w') (EndOk P ρ h w a (dstsOf (.loop (.seq (.region id ops false) b))) outs) →
      (Code.seq (.region id ops false) b).wpIn (Fr rd) 0 P Q0 a' w' from hh _ rfl
  intro Q0 hQ0
  refine wpIn_seq (wpIn_region ?_)
  rw [List.range_eq_range', hsize, List.range'_succ]
  simp only [wpOpsIn, ho0]
  have hwant : Region.wanted o (yielded ops a'.tmps) = true := by unfold Region.wanted; rw [hgd]
  rw [hwant]
  simp only [if_true]
  refine ⟨fun _ _ => trivial, ?_⟩
  rw [semAt_fr hs]
  have hrun : ∀ X w'', (Instr.next (.pointer (some ⟨ri.blk, 0, none⟩)) false o.type).run P w' = .ok X w'' → (execOp a'.eval o).run P w' = .ok (.value X) w'' := by
    intro X w'' hX
    unfold execOp; rw [hop]
    simp only [hitx a' S.frame, Sem.run_bind, hX, Result.andThen_ok, Sem.run_pure]
  have ds_ok : DRs ρ ds a'.defers := by rw [S.defers]; exact d
  by_cases hnil : (xs.filter fun e => !seen.contains e.born) = #[]
  · -- all have been seen
    rw [hrun _ _ (n1 hnil)]
    show wpOpsIn (Fr rd) 0 P ops _ (List.range' 1 l.length) (a'.put o.dst (.tuple #[.bool false])) w'
    have hover : Ov P it (.seq (.region id ops false) b) cx env' ds h outs := by
      rcases I.2 with k | ⟨k0, hk0, hex⟩ | k
      · cases k
      · obtain ⟨x, hx, _, _, hxb⟩ := hleft'.mem' k0 hk0
        have hin : seen.contains x.born = true := by
          cases hcn : seen.contains x.born with
          | true => rfl
          | false =>
            have : x ∈ xs.filter fun e => !seen.contains e.born := by
              rw [Array.mem_filter]; exact ⟨by simpa using hx, by rw [hcn]; rfl⟩
            rw [hnil] at this
            simp at this
        obtain ⟨k1, hk1, hno, hkb⟩ := hseen x.born (by simpa using hin)
        have : k1 = k0 := distinctB_ok hdis _ hk1 _ hk0 (by omega)
        subst this
        exact absurd hex hno
      · exact k
    obtain ⟨es', hno, hR, hsub⟩ := hover
    have p0 := post0 w' S.os S.tape S.output S.size S.block
    refine hR id ops false o l b rfl hl ρ w' a' rd _ Q0 (p0.pre q) (henv a' S.frame) ds_ok hcx (S.tmps.trans hn) ⟨#[.bool false], rfl, _, _, rfl, rfl, rfl⟩ fun e1 a1 w1 hx => ?_
    obtain ⟨o1, ho1, ρ1, hm1⟩ := hx
    rw [hQ0]
    have s0 : St P ρ h w a (dstsOf (.seq (.region id ops false) b)) env' ds (h.put it.o none) a' w' ρ := ⟨henv a' S.frame, ds_ok, p0, S.tmps, S.frame, ⟨[], by rw [S.defers]; rfl⟩⟩
    cases o1 with
    | nrm env1 ds1 h1 => exact absurd ho1 (noNrm_mem hno)
    | exit id1 env1 ds1 h1 =>
      obtain ⟨rfl, st⟩ := hm1
      exact ⟨.exit id1 env1 ds1 h1, hsub _ ho1, ρ1, rfl, s0.trans st (fun t ht => ht) (fun t ht => ht)⟩
    | ret env1 ds1 h1 =>
      obtain ⟨rfl, st⟩ := hm1
      exact ⟨.ret env1 ds1 h1, hsub _ ho1, ρ1, rfl, s0.trans st (fun t ht => ht) (fun t ht => ht)⟩
    | bad s => exact hm1.elim
    | val v h => exact hm1.elim
  · -- one more
    obtain ⟨x, n, hx, hstep⟩ := n2 hnil
    rw [hrun _ _ hstep]
    show wpOpsIn (Fr rd) 0 P ops _ (List.range' 1 l.length) (a'.put o.dst (.tuple #[.bool true, x.key, x.val])) (wput { w' with drawn := n } ri.blk (.mapIter (some rm.blk) since (seen.push x.born) it.c))
    generalize hw'' : wput { w' with drawn := n } ri.blk (.mapIter (some rm.blk) since (seen.push x.born) it.c) = w''
    have hx' := hx
    rw [Array.mem_filter] at hx'
    obtain ⟨k, hk, hkk, hkv, hkb⟩ := hleft'.mem x (by simpa using hx'.1)
    have hvr : VR ρ (.tup [.bool true, k.k, k.v]) (.tuple #[.bool true, x.key, x.val]) := ⟨#[.bool true, x.key, x.val], rfl, _, _, rfl, rfl, _, _, rfl, hkk, _, _, rfl, hkv, rfl⟩
    have hribw : ri.blk < w'.heap.size := Nat.lt_of_lt_of_le hrib S.size
    have f1 : w''.os = w.os := by rw [← hw'']; exact S.os
    have f2 : w''.tape = w.tape := by rw [← hw'']; exact S.tape
    have f3 : w''.output = w.output := by rw [← hw'']; exact S.output
    have f4 : w.heap.size ≤ w''.heap.size := by rw [← hw'', wput_size]; exact S.size
    have f5 : ∀ b, b < w.heap.size → b ≠ ri.blk → w''.heap[b]? = w.heap[b]? := by
      intro b hb hne'
      rw [← hw'', wput_other _ _ _ _ hne']
      exact S.block b hb hne'
    have f6 : w''.heap[ri.blk]? = some (.mapIter (some rm.blk) since (seen.push k.b) it.c) := by
      rw [← hw'', ← hkb]; exact wput_same _ _ _ hribw
    have p1 := post1 w'' k seen f1 f2 f3 f4 f5 f6
    have s1 : St P ρ h w a (dstsOf (.seq (.region id ops false) b)) env' ds (h.set it.o (.iterAft it.m k.b it.c)) a' w'' ρ := ⟨henv a' S.frame, ds_ok, p1, S.tmps, S.frame, ⟨[], by rw [S.defers]; rfl⟩⟩
    by_cases hex : Ex P it (.seq (.region id ops false) b) cx env' ds h outs k
    · obtain ⟨es', hno, hR, hsub⟩ := hex
      refine hR id ops false o l b rfl hl ρ w'' a' rd _ Q0 (p1.pre q) (henv a' S.frame) ds_ok hcx (S.tmps.trans hn) hvr fun e1 a1 w1 hx => ?_
      obtain ⟨o1, ho1, ρ1, hm1⟩ := hx
      rw [hQ0]
      cases o1 with
      | nrm env1 ds1 h1 => exact absurd ho1 (noNrm_mem hno)
      | exit id1 env1 ds1 h1 =>
        obtain ⟨rfl, st⟩ := hm1
        exact ⟨.exit id1 env1 ds1 h1, hsub _ ho1, ρ1, rfl, s1.trans st (fun t ht => ht) (fun t ht => ht)⟩
      | ret env1 ds1 h1 =>
        obtain ⟨rfl, st⟩ := hm1
        exact ⟨.ret env1 ds1 h1, hsub _ ho1, ρ1, rfl, s1.trans st (fun t ht => ht) (fun t ht => ht)⟩
      | bad s => exact hm1.elim
      | val v h => exact hm1.elim
    · rcases I.1 k hk with hqt | hqt
      · obtain ⟨qs, hqs, hR⟩ := hqt
        have qf : Pre P ρ ((frozen h).set it.o (.iterAft it.m k.b it.c)) w'' := by
          have q1 := p1.pre q
          have hg : ∀ p, ((frozen h).set it.o (.iterAft it.m k.b it.c)).get p = (h.set it.o (.iterAft it.m k.b it.c)).get p := by
            intro p; rw [H.get_set, H.get_set, frozen_get]
          exact ⟨⟨fun p y hy => q1.hr.obj p y (by rw [← hg]; exact hy), fun p y r₁ p' y' r₂ hy h1 hy' h2 => q1.hr.sep p y r₁ p' y' r₂ (by rw [← hg]; exact hy) h1 (by rw [← hg]; exact hy') h2⟩,
            fun p hp => q1.fresh p (by simpa [frozen_next] using hp), q1.glob⟩
        have hnoset : ∀ b, ¬ wset ρ ((frozen h).set it.o (.iterAft it.m k.b it.c)) b := by
          rintro b ⟨p, y, r', hy, hr', hm, _, _⟩
          rw [H.may_iff] at hm
          simp only [H.lim_set, H.exc_set, frozen_lim, frozen_exc] at hm
          have := qf.ne_next hy
          simp only [H.next_set, frozen_next] at this
          omega
        refine hR id ops false o l b rfl hl ρ w'' a' rd _ Q0 qf (henv a' S.frame) ds_ok hcx (S.tmps.trans hn) hvr fun e1 a1 w1 hx => ?_
        obtain ⟨o1, ho1, ρ1, hm1⟩ := hx
        obtain ⟨env1, ds1, h1, rfl, hlen⟩ := allNrm_mem hqs ho1
        obtain ⟨rfl, st⟩ := hm1
        rw [hQ0]
        have hblk : ∀ b, b < w''.heap.size → w1.heap[b]? = w''.heap[b]? := fun b hb => st.post.fr.block b hb (hnoset b)
        have hsz := st.post.fr.size
        have hdef : a1.defers = a'.defers := by
          obtain ⟨pre, hpre⟩ := st.defers
          have hlen1 : ∀ {ρ' : Rho} {l : List D} {x : List Deferred}, DRs ρ' l x → x.length = l.length := by
            intro ρ' l
            induction l with
            | nil => intro x hx; rw [show x = [] from hx]; rfl
            | cons d l ih =>
              intro x hx
              obtain ⟨y, ys, rfl, _, h2⟩ := hx
              simp [ih h2]
          have e1 := hlen1 st.dr
          have e2 := hlen1 ds_ok
          have : pre = [] := by
            have := congrArg List.length hpre
            simp at this
            exact List.length_eq_zero_iff.1 (by omega)
          rw [hpre, this]; rfl
        have hbk1 : w1.heap[ri.blk]? = some (.mapIter (some rm.blk) since (seen.push k.b) it.c) := by
          rw [hblk _ (Nat.lt_of_lt_of_le hrib f4)]; exact f6
        refine ⟨⟨⟨seen.push k.b, it.c, hbk1, fun _ => rfl, fun b hb => ?_⟩, st.post.fr.os.trans f1, st.post.fr.tape.trans f2, st.post.fr.output.trans f3, Nat.le_trans f4 hsz, fun b hb hne' => ?_, st.size.trans S.tmps, fun t ht => (st.frame t ht).trans (S.frame t ht), hdef.trans S.defers⟩, ?_⟩
        · rw [Array.mem_push] at hb
          rcases hb with hb | rfl
          · exact hseen b hb
          · exact ⟨k, hk, hex, rfl⟩
        · rw [hblk b (Nat.lt_of_lt_of_le hb f4)]; exact f5 b hb hne'
        · unfold iterMu
          rw [hbk1, hbk']
          have := filter_push hx
          rw [hkb] at this
          exact this
      · exact absurd hqt hex
end tasks
end Sx
