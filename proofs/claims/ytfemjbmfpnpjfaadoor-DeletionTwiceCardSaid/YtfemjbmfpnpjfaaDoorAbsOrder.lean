/- A region whose order is drawn: one order stands for all. -/
import Derived.Test.YtfemjbmfpnpjfaaDoorAbsDraw
namespace Go.Ab

section
variable {P : Program} {ops : Array Oper} {Q : Exit → Act → World → Prop} {md : Region.Mode}

/-- What a step of an operation leaves alone. -/
def UU (B : Nat → Nat → Prop) (op : Op) (w w' : World) : Prop := ((pureOp op || isLoad op) = true → w' = w) ∧ ((isAlloc op || isCallV op || isStoreOp op) = true → Pres B w w')

theorem UU.sub {B B' : Nat → Nat → Prop} {op : Op} {w w' : World} (h : ∀ b o, B b o → B' b o) (hu : UU B' op w w') : UU B op w w' :=
  ⟨hu.1, fun e b o u hb hc => hu.2 e b o u (h b o hb) hc⟩

def wpAnyU (P : Program) (md : Region.Mode) (ops : Array Oper) (Q : Exit → Act → World → Prop) : Nat → (Nat → Nat → Nat → Prop) → Array Bool → Act → World → Prop
  | 0, _, listed, a, w => Region.ready md ops listed = [] ∧ Q .normal a w
  | fuel + 1, B, listed, a, w =>
    (Region.ready md ops listed = [] → Q .normal a w) ∧
    ∀ i ∈ Region.ready md ops listed, wpOp P ops Q i (fun a' w' => (∀ o, ops[i]? = some o → UU (B i) o.op w w') ∧ wpAnyU P md ops Q fuel B (listed.setIfInBounds i true) a' w') a w

theorem wpAny_of_U : ∀ (fuel : Nat) (B : Nat → Nat → Nat → Prop) (listed : Array Bool) (a : Act) (w : World), wpAnyU P md ops Q fuel B listed a w → wpAny P md ops Q fuel listed a w
  | 0, _, _, _, _, h => h
  | fuel + 1, B, listed, a, w, h => ⟨h.1, fun i hi => wpOp_mono (fun a' w' hh => wpAny_of_U fuel B _ a' w' hh.2) (h.2 i hi)⟩

/-- The value that an operation yields here, and wherever the world has gone as told. -/
def YieldsR (P : Program) (ops : Array Oper) (R : World → World → Prop) (o : Oper) (v : Value) (a : Act) (w : World) : Prop :=
  (Region.wanted o (yielded ops a.tmps) = true ∧ ∀ w', R w w' → (execOp a.eval o).run P w' = .ok (.value v) w') ∨ (Region.wanted o (yielded ops a.tmps) = false ∧ v = undef)

theorem YieldsR.wpOp {R : World → World → Prop} (hr : ∀ w, R w w) {i : Nat} {o : Oper} {v : Value} {a : Act} {w : World} (hi : ops[i]? = some o) (hy : YieldsR P ops R o v a w)
    {K : Act → World → Prop} (h : K (a.put o.dst v) w) : wpOp P ops Q i K a w := by
  unfold Go.wpOp
  simp only [hi]
  rcases hy with ⟨hw, hv⟩ | ⟨hw, rfl⟩
  · simp only [hw, if_true, Oper.wp, hv w (hr w), Oper.upon]; exact .inl h
  · simp only [hw, Bool.false_eq_true, if_false]; exact h

theorem wpOp_putU {j : Nat} {oi oj : Oper} {v : Value} (hj : ops[j]? = some oj) (hap : oi.apart ops oj = true)
    (hsi : ∀ cs b, oi.op ≠ .select cs b) (hsj : ∀ cs b, oj.op ≠ .select cs b)
    (hQ : ∀ c a w, ¬ Q (.panic c) a w) {K : Act → World → Prop} {a : Act} {w : World} (h : wpOp P ops Q j K (a.put oi.dst v) w) :
    wpOp P ops Q j (fun a' w' => (execOp a'.eval oi = execOp a.eval oi ∧ Region.wanted oi (yielded ops a'.tmps) = Region.wanted oi (yielded ops a.tmps)) ∧ K (a'.put oi.dst v) w') a w := by
  obtain ⟨h1, h2, h3⟩ := Oper.apart_spec hap
  have keep : ∀ u, execOp (a.put oj.dst u).eval oi = execOp a.eval oi ∧ Region.wanted oi (yielded ops (a.put oj.dst u).tmps) = Region.wanted oi (yielded ops a.tmps) := fun u =>
    ⟨execOp_put oi hsi a oj.dst u h3, wanted_put oi a oj.dst u h3⟩
  unfold wpOp at *
  simp only [hj] at *
  rw [wanted_put oj a oi.dst v h1] at h
  split
  · rename_i hw
    simp only [hw, if_true] at h
    rcases h with h | ⟨hasks, hlets⟩
    case inr => exact .inr ⟨by unfold Oper.asks at *; rw [execOp_put oj hsj a oi.dst v h1] at hasks; exact hasks, hlets⟩
    refine .inl ?_
    unfold Oper.wp at *
    rw [execOp_put oj hsj a oi.dst v h1] at h
    generalize (execOp a.eval oj).run P w = r at *
    cases r with
    | ok n w' =>
      cases n <;> simp only [Oper.upon] at h ⊢
      case value u => exact ⟨keep u, by rw [← Act.put_comm a v u h2]; exact h⟩
      case skip => exact ⟨keep _, by rw [← Act.put_comm a v undef h2]; exact h⟩
      case defer d =>
        refine ⟨⟨execOp_put oi hsi { a with defers := d :: a.defers } oj.dst undef h3, wanted_put oi { a with defers := d :: a.defers } oj.dst undef h3⟩, ?_⟩
        rw [← Act.put_comm _ v undef h2, ← Act.put_defers]
        exact h
      case enter f args =>
        refine Calls.mono h fun e w'' he => ?_
        cases e with
        | returned u => exact ⟨keep u, by rw [← Act.put_comm a v u h2]; exact he⟩
        | panicked c => exact absurd he (hQ _ _ _)
        | outgrown => exact he
      case row row args => exact Rows.mono h fun u w'' he => ⟨keep u, by rw [← Act.put_comm a v u h2]; exact he⟩
    | halt x w' =>
      cases x <;> simp only [Oper.upon] at h ⊢
      case panic u => exact absurd h (hQ _ _ _)
  · rename_i hw
    simp only [hw] at h
    exact ⟨keep _, by rw [← Act.put_comm a v undef h2]; exact h⟩

/-- The operation may come first. -/
theorem wpAnyU_first {R : World → World → Prop} (hrf : ∀ w, R w w) (hrt : ∀ w1 w2 w3, R w1 w2 → R w2 w3 → R w1 w3) {i : Nat} {oi : Oper} {v : Value} (hi : ops[i]? = some oi)
    (hsel : ∀ (j : Nat) (o : Oper) cs b, ops[j]? = some o → o.op ≠ .select cs b) (hQ : ∀ c a w, ¬ Q (.panic c) a w) {B B' : Nat → Nat → Nat → Prop} (hBB : ∀ j b o, B j b o → B' j b o) (huu : ∀ w, UU (B i) oi.op w w) :
    ∀ (fuel : Nat) (listed : Array Bool) (a : Act) (w : World),
      (∀ j oj, ops[j]? = some oj → j ≠ i → listed.getD j true = false → (∀ e ∈ oj.after, Region.binds md e = true → e.on ≠ i) → oi.apart ops oj = true ∧ ∀ w w', UU (B' j) oj.op w w' → R w w') →
      i ∈ Region.ready md ops listed → YieldsR P ops R oi v a w →
      wpAnyU P md ops Q fuel B' (listed.setIfInBounds i true) (a.put oi.dst v) w → wpAnyU P md ops Q (fuel + 1) B listed a w := by
  have weak : ∀ (fuel : Nat) (listed : Array Bool) (a : Act) (w : World), wpAnyU P md ops Q fuel B' listed a w → wpAnyU P md ops Q fuel B listed a w := by
    intro fuel
    induction fuel with
    | zero => intro _ _ _ h; exact h
    | succ n ih => intro listed a w h; exact ⟨h.1, fun k hk => wpOp_mono (fun a' w' hh => ⟨fun o ho => (hh.1 o ho).sub (hBB k), ih _ _ _ hh.2⟩) (h.2 k hk)⟩
  intro fuel
  induction fuel with
  | zero =>
    intro listed a w _ hr hy H
    refine ⟨fun h => (by rw [h] at hr; cases hr), fun j hj => ?_⟩
    by_cases hji : j = i
    · subst hji
      exact hy.wpOp hrf hi ⟨fun o ho => by rw [hi] at ho; cases ho; exact huu w, weak _ _ _ _ H⟩
    · have := ready_mono hj hji
      rw [H.1] at this
      cases this
  | succ fuel ih =>
    intro listed a w hfree hr hy H
    refine ⟨fun h => (by rw [h] at hr; cases hr), fun j hj => ?_⟩
    by_cases hji : j = i
    · subst hji
      exact hy.wpOp hrf hi ⟨fun o ho => by rw [hi] at ho; cases ho; exact huu w, weak _ _ _ _ H⟩
    · have h1 := H.2 j (ready_mono hj hji)
      obtain ⟨hjun, oj, hoj, hall⟩ := mem_ready.1 hj
      have hnot : ∀ e ∈ oj.after, Region.binds md e = true → e.on ≠ i := fun e he hb heq => by
        have h1 := hall e he hb
        have h0 := (mem_ready.1 hr).1
        rw [heq] at h1
        rcases Nat.lt_or_ge i listed.size with h' | h'
        · simp [h'] at h0 h1; rw [h0] at h1; cases h1
        · simp [Array.getElem?_eq_none h'] at h1
      obtain ⟨hap, hper⟩ := hfree j oj hoj hji hjun hnot
      have h2 := wpOp_putU hoj hap (fun cs b => hsel i oi cs b hi) (fun cs b => hsel j oj cs b hoj) hQ h1
      have hfree' : ∀ k ok, ops[k]? = some ok → k ≠ i → (listed.setIfInBounds j true).getD k true = false →
          (∀ e ∈ ok.after, Region.binds md e = true → e.on ≠ i) → oi.apart ops ok = true ∧ ∀ w w', UU (B' k) ok.op w w' → R w w' := fun k ok hk hki hun hno => by
        refine hfree k ok hk hki ?_ hno
        by_cases hjk : j = k
        · subst hjk; exact hjun
        · rw [getD_set_ne true hjk] at hun; exact hun
      refine wpOp_mono (fun a' w' h3 => ?_) h2
      obtain ⟨⟨e1, e2⟩, h4, h5⟩ := h3
      have hR := hper w w' (h4 oj hoj)
      refine ⟨fun o ho => by rw [hoj] at ho; cases ho; exact (h4 oj hoj).sub (hBB j), ih (listed.setIfInBounds j true) a' w' hfree' (ready_mono hr (Ne.symm hji)) ?_ ?_⟩
      · rcases hy with ⟨y1, y2⟩ | ⟨y1, y2⟩
        · exact .inl ⟨by rw [e2]; exact y1, fun w2 hw2 => by rw [e1]; exact y2 w2 (hrt _ _ _ hR hw2)⟩
        · exact .inr ⟨by rw [e2]; exact y1, y2⟩
      · rw [Array.setIfInBounds_comm _ _ hji]
        exact h5
end

/-- Which operations may be unordered with this one, where it is carried out first. -/
def mayMix (mode : Nat) (x y : Op) : Bool := pureOp x || (isLoad x && (pureOp y || isLoad y || (decide (1 ≤ mode) && (isAlloc y || isCallV y || isStoreOp y))))

def othersOk (mode : Nat) (ops : Array Oper) (listed : Array Bool) (i : Nat) : Bool :=
  match ops[i]? with
  | none => false
  | some oi => (pureOp oi.op || isLoad oi.op) && (List.range ops.size).all fun j => j == i || listed.getD j true || match ops[j]? with
      | some oj => oj.after.any (fun e => Region.binds .any e && e.on == i) || (oi.apart ops oj && mayMix mode oi.op oj.op)
      | none => true

theorem othersOk_class {mode : Nat} {ops : Array Oper} {listed : Array Bool} {i : Nat} {oi : Oper} (hi : ops[i]? = some oi) (h : othersOk mode ops listed i = true) : pureOp oi.op = true ∨ isLoad oi.op = true := by
  simp only [othersOk, hi, Bool.and_eq_true, Bool.or_eq_true] at h
  exact h.1

theorem othersOk_spec {mode : Nat} {ops : Array Oper} {listed : Array Bool} {i : Nat} {oi : Oper} (hi : ops[i]? = some oi) (h : othersOk mode ops listed i = true) (j : Nat) (oj : Oper)
    (hj : ops[j]? = some oj) (hne : j ≠ i) (hun : listed.getD j true = false) (hno : ∀ e ∈ oj.after, Region.binds .any e = true → e.on ≠ i) :
    oi.apart ops oj = true ∧ mayMix mode oi.op oj.op = true := by
  simp only [othersOk, hi, Bool.and_eq_true] at h
  have h := h.2
  simp only [List.all_eq_true, List.mem_range] at h
  have h1 := h j (Array.getElem?_eq_some_iff.1 hj).1
  simp only [hj, Bool.or_eq_true, beq_iff_eq, hne, false_or, hun, Bool.false_eq_true, Bool.and_eq_true] at h1
  rcases h1 with h1 | h1
  · obtain ⟨e, he, hb⟩ := Array.any_eq_true'.1 h1
    simp only [Bool.and_eq_true, beq_iff_eq] at hb
    exact absurd hb.2 (hno e he hb.1)
  · exact h1

variable {E : Env0} {X : Cx} {s s1 : St} {a : Act} {w : World}

/-- Neither a store nor a call by value. -/
def simpleOp : Op → Bool
  | .store .. => false
  | .call { callee := .value _, .. } => false
  | _ => true

/-- A simple operation, with what the model does. -/
theorem runOp_simple {n : Nat} {f : FuncId} {r : Rule} {ops : Array Oper} {o : Oper} (h : Rel E X s a w) (hd : ∀ t, o.dst = some t → t < a.tmps.size) (hs : simpleOp o.op = true)
    (hp : runOp E f r ops n o s = some s1) :
    (Region.wanted o (yielded ops a.tmps) = false ∧ After E X w a.tmps.size s1 (a.put o.dst undef) w) ∨
    (Region.wanted o (yielded ops a.tmps) = true ∧ readsOk E (lookRule r ops o) s o.op = true ∧ ∃ fl q v s2, stepOp E fl q o.op s = some (v, s2) ∧ ∃ val w1, (execOp a.eval o).run E.P w = .ok (.value val) w1 ∧ After E X w a.tmps.size s1 (a.put o.dst val) w1) := by
  cases n with
  | zero => simp [runOp] at hp
  | succ n =>
    simp only [runOp] at hp
    cases hg : guardOf ops s o with
    | none => simp [hg] at hp
    | some b =>
      have hwant := guard_sound h hg
      cases b with
      | false =>
        simp only [hg, Option.some.injEq] at hp
        subst hp
        refine .inl ⟨hwant, ?_⟩
        cases hdst : o.dst with
        | none => exact ⟨rfl, X, ⟨[], by simp⟩, Ext.refl X w, h⟩
        | some t =>
          obtain ⟨X', hmu, hE, hR⟩ := h.put (v := .skipped) (val := undef) (hd t hdst) rfl
          exact ⟨size_put a _ _, X', ⟨[], by simp [hmu]⟩, hE, hR⟩
      | true =>
        simp only [hg] at hp
        refine .inr ⟨hwant, ?_⟩
        have simple : (if readsOk E (lookRule r ops o) s o.op then match stepOp E (E.an.flag f (o.dst.getD 0)) (r.draws && !opWrites ops o.op) o.op s with
            | some (v, s1) => some ((s1.del (usedUp o.op)).put o.dst (keepAs (E.an.flag f (o.dst.getD 0)) v)) | none => none else none) = some s1 := by
          cases hop : o.op with
          | store t ad x => rw [hop] at hs; cases hs
          | call c =>
            obtain ⟨callee, args, ts⟩ := c
            cases callee with
            | value g => rw [hop] at hs; cases hs
            | builtin b => simp only [hop] at hp; exact hp
            | invoke rc m => simp only [hop] at hp; exact hp
          | _ => simp only [hop] at hp; exact hp
        split at simple
        · rename_i hro
          cases hst : stepOp E (E.an.flag f (o.dst.getD 0)) (r.draws && !opWrites ops o.op) o.op s with
          | none => simp [hst] at simple
          | some vs =>
            obtain ⟨v, s2⟩ := vs
            simp only [hst, Option.some.injEq] at simple
            subst simple
            obtain ⟨val, w1, hr, X', hm, hE, hR⟩ := (stepOp_sound h o hst).put (E.an.flag f (o.dst.getD 0)) o.dst hd
            exact ⟨hro, _, _, v, s2, hst, val, w1, hr, size_put a _ _, X', hm, hE h.gdom, hR⟩
        · cases simple

theorem wpOp_value {P : Program} {ops : Array Oper} {Q : Exit → Act → World → Prop} {K : Act → World → Prop} {i : Nat} {o : Oper} {a : Act} {w w1 : World} {v : Value} (hi : ops[i]? = some o) (hw : Region.wanted o (yielded ops a.tmps) = true)
    (hr : (execOp a.eval o).run P w = .ok (.value v) w1) (hK : K (a.put o.dst v) w1) : wpOp P ops Q i K a w := by
  unfold Go.wpOp
  simp only [hi, hw, if_true, Oper.wp, hr, Oper.upon]; exact .inl hK
theorem wpOp_unwanted {P : Program} {ops : Array Oper} {Q : Exit → Act → World → Prop} {K : Act → World → Prop} {i : Nat} {o : Oper} {a : Act} {w : World} (hi : ops[i]? = some o) (hw : Region.wanted o (yielded ops a.tmps) = false)
    (hK : K (a.put o.dst undef) w) : wpOp P ops Q i K a w := by
  unfold Go.wpOp
  simp only [hi, hw, Bool.false_eq_true, if_false]; exact hK

end Go.Ab
