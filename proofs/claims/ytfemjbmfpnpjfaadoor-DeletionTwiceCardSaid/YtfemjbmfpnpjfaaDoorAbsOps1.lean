/- One operation in its region: the guard, the result's slot, a call. -/
import Derived.Test.YtfemjbmfpnpjfaaDoorAbsOne
namespace Go.Ab

variable {E : Env0} {X : Cx} {s s1 : St} {a : Act} {w : World}

/-- What holds behind a step. -/
def After (E : Env0) (X : Cx) (w : World) (nt : Nat) (s1 : St) (a' : Act) (w' : World) : Prop :=
  a'.tmps.size = nt ∧ ∃ X', (∃ more, X'.mu = X.mu ++ more) ∧ Ext X w X' w' ∧ Rel E X' s1 a' w'

theorem After.trans (hg : ∀ b l k, X.G b = some (l, k) → b < w.heap.size) {X1 : Cx} {w1 w2 : World} {nt : Nat} {s2 : St} {a2 : Act} (hm : ∃ more, X1.mu = X.mu ++ more) (hE : Ext X w X1 w1) (h : After E X1 w1 nt s2 a2 w2) : After E X w nt s2 a2 w2 := by
  obtain ⟨hn, X2, ⟨m2, hm2⟩, hE2, hR2⟩ := h
  obtain ⟨m1, hm1⟩ := hm
  exact ⟨hn, X2, ⟨m1 ++ m2, by rw [hm2, hm1, List.append_assoc]⟩, Ext.trans hg hE hE2, hR2⟩

theorem size_put (a : Act) (dst : Option Nat) (v : Value) : (a.put dst v).tmps.size = a.tmps.size := by
  cases dst <;> simp [Act.put]

theorem freezeRes (h : Rel E X s a w) : ∀ {cs : List AV} {ds : List D} {vs : Array Value}, vs.size = cs.length → (∀ (j : Nat) c, cs[j]? = some c → RVl w X (.res j) c (vs.getD j undef)) → freezeAll cs = some ds → Rep w (X.remap φres).imm (.agg ds) (.agg vs) := by
  intro cs ds vs hn hh hf
  obtain ⟨h3, h4⟩ := freezeAll_get hf
  refine .agg ds vs (by omega) (fun j d hj => ?_)
  have hlt : j < cs.length := by rw [← h3]; exact (List.getElem?_eq_some_iff.1 hj).1
  obtain ⟨d', hd', hfd⟩ := h4 j cs[j] (by simp [hlt])
  rw [hj] at hd'; cases hd'
  exact RVl.frozen h (hh j cs[j] (by simp [hlt])) hfd

/-- A result is put into its slot. -/
theorem Sound.put {r : Result Next} {v : AV} (hs : Sound E X a w r v s1) (fl : Flag) (dst : Option Nat) (hd : ∀ t, dst = some t → t < a.tmps.size) :
    ∃ val w1, r = .ok (.value val) w1 ∧ ∃ X', (∃ more, X'.mu = X.mu ++ more) ∧ (∀ (_ : ∀ b l k, X.G b = some (l, k) → b < w.heap.size), Ext X w X' w1) ∧ Rel E X' (s1.put dst (keepAs fl v)) (a.put dst val) w1 := by
  obtain ⟨val, w1, X1, hr, hm, hE, hR, hv⟩ := hs
  refine ⟨val, w1, hr, ?_⟩
  cases dst with
  | none => exact ⟨X1, hm, fun _ => hE, hR⟩
  | some t =>
    have hb := hd t rfl
    -- the value as it is kept
    have hkeep : ∃ X2, X2.mu = X1.mu ∧ Ext X1 w1 X2 w1 ∧ Rel E X2 s1 a w1 ∧ RVe X2 s1 a w1 .res (keepAs fl v) val := by
      have stay : keepAs fl v = v → ∃ X2, X2.mu = X1.mu ∧ Ext X1 w1 X2 w1 ∧ Rel E X2 s1 a w1 ∧ RVe X2 s1 a w1 .res (keepAs fl v) val := fun e => ⟨X1, rfl, Ext.refl X1 w1, hR, by rw [e]; exact hv⟩
      cases fl with
      | keep => exact stay (by cases v <;> rfl)
      | view =>
        cases v with
        | own xs l => exact ⟨X1.remap φres, rfl, Ext.remap X1 w1 φres, hR.dropRes, OwnOk.frozen (φ := φres) rfl hR.oamb hv⟩
        | agg cs =>
          cases hf : freezeAll cs with
          | none => exact stay (by simp [keepAs, hf])
          | some ds =>
            obtain ⟨vs, rfl, hn, hh⟩ := hv
            refine ⟨X1.remap φres, rfl, Ext.remap X1 w1 φres, hR.dropRes, ?_⟩
            have : keepAs .view (.agg cs) = .d (.agg ds) := by simp [keepAs, hf]
            rw [this]
            exact freezeRes hR hn hh hf
        | _ => exact stay rfl
    obtain ⟨X2, hmu2, hE2, hR2, hv2⟩ := hkeep
    obtain ⟨X3, hmu3, hE3, hR3⟩ := hR2.put hb hv2
    obtain ⟨more, hmore⟩ := hm
    exact ⟨X3, ⟨more, by rw [hmu3, hmu2, hmore]⟩, fun hg => Ext.trans hg (Ext.trans hg hE hE2) hE3, hR3⟩

theorem guard_sound (h : Rel E X s a w) {ops : Array Oper} {o : Oper} {b : Bool} (hg : guardOf ops s o = some b) : Region.wanted o (yielded ops a.tmps) = b := by
  unfold guardOf at hg
  unfold Region.wanted
  cases hgd : o.guard with
  | none => rw [hgd] at hg; simp at hg; subst hg; rfl
  | some jw =>
    obtain ⟨j, want⟩ := jw
    rw [hgd] at hg
    simp only at hg ⊢
    cases hd : (ops[j]?).bind (·.dst) with
    | none => simp [hd] at hg
    | some d =>
      simp only [hd, Option.map_some] at hg
      have ht := h.env d
      generalize hc : get s.env d = c at hg ht
      have hlt : c ≠ .undef → d < a.tmps.size := fun hne => h.bound d ⟨c, hc, hne⟩
      cases c with
      | d x =>
        cases x with
        | v u =>
          cases u <;> simp at hg
          rename_i bb
          have hl := hlt (by simp)
          have hv := rep_value (show Rep w X.imm (.v (.bool bb)) (a.tmps.getD d undef) from ht)
          have e : a.tmps[d]? = some (.bool bb) := by
            rw [Array.getElem?_eq_getElem hl]
            simpa [Array.getD, hl] using hv
          simp only [yielded, hd, Option.bind_some, e]
          rw [← hg]
          cases bb <;> cases want <;> rfl
        | _ => simp at hg
      | skipped =>
        simp at hg
        subst hg
        have hl := hlt (by simp)
        have hv : a.tmps.getD d undef = undef := ht
        have e : a.tmps[d]? = some undef := by
          rw [Array.getElem?_eq_getElem hl]
          simpa [Array.getD, hl] using hv
        simp only [yielded, hd, Option.bind_some, e]
        rfl
      | _ => simp at hg

/-- What a callee is handed. -/
def ArgRel (w : World) (X : Cx) (vs : List AV) (args : Array Value) : Prop :=
  args.size = vs.length ∧ ∀ (i : Nat) v, vs[i]? = some v → v.isOwn = false ∧ RVl w X (.res i) v (args.getD i undef)

theorem argsOf_rel (h : Rel E X s a w) : ∀ {l : List Operand} {vs : List AV}, argsOf E s l = some vs → ArgRel w X vs (l.map a.eval).toArray
  | [], vs, hp => by simp [argsOf] at hp; subst hp; exact ⟨rfl, fun i v hi => by simp at hi⟩
  | x :: l, vs, hp => by
    simp only [argsOf] at hp
    cases h1 : argOf E s x with
    | none => simp [h1] at hp
    | some v =>
      cases h2 : argsOf E s l with
      | none => simp [h1, h2] at hp
      | some vs' =>
        simp only [h1, h2, Option.some.injEq] at hp
        subst hp
        obtain ⟨h3, h4⟩ := argsOf_rel h h2
        refine ⟨by simpa using h3, fun i u hi => ?_⟩
        cases i with
        | zero =>
          simp at hi; subst hi
          have e0 : ((x :: l).map a.eval).toArray.getD 0 undef = a.eval x := by simp [Array.getD]
          rw [e0]
          obtain ⟨L, hr⟩ := h.operand x
          unfold argOf at h1
          split at h1
          · rename_i ob oo hx; rw [hx] at hr; cases h1; exact ⟨rfl, hr⟩
          · rename_i f cs hx; rw [hx] at hr; cases h1; exact ⟨rfl, hr⟩
          · rename_i cs hx; rw [hx] at hr; cases h1; exact ⟨rfl, hr⟩
          · simp only [Option.map_eq_some_iff] at h1
            obtain ⟨d, hd, rfl⟩ := h1
            exact ⟨rfl, ev_rel h hd⟩
        | succ i =>
          obtain ⟨h5, h6⟩ := h4 i u (by simpa using hi)
          have e0 : ((x :: l).map a.eval).toArray.getD (i + 1) undef = (l.map a.eval).toArray.getD i undef := by simp [Array.getD_eq_getD_getElem?]
          rw [e0]
          exact ⟨h5, RVl.copy h5 h6⟩

/-- Calls are sound, so far. -/
def CallAOk (E : Env0) (n : Nat) : Prop :=
  ∀ (r : Rule) (h : FuncId) (vs : List AV) (dst : Option Nat) (s s1 : St), callA E r n h vs dst s = some s1 →
    ∀ (X : Cx) (a : Act) (w : World) (args : Array Value), Rel E X s a w → ArgRel w X vs args → (∀ t, dst = some t → t < a.tmps.size) →
      Calls E.P h args w fun e w' => ∃ val, e = .returned val ∧ After E X w a.tmps.size s1 (a.put dst val) w' ∧ (r.draws = true → ∀ (o : Nat) b, X.mu[o]? = some b → above r.mode o = true → w'.heap[b]? = w.heap[b]?)

def isCallV : Op → Bool
  | .call { callee := .value _, .. } => true
  | _ => false
/-- A store. -/
def isStoreOp : Op → Bool
  | .store .. => true
  | _ => false
/-- A call in a region that draws its order leaves the variables above the split alone. -/
def Quiet (X : Cx) (w : World) (r : Rule) (ops : Array Oper) (o : Oper) (w' : World) : Prop := r.draws = true → (isCallV o.op = true ∨ (isStoreOp o.op = true ∧ 1 ≤ r.mode ∧ guardNeeded ops o = true)) → ∀ (o : Nat) b, X.mu[o]? = some b → above r.mode o = true → w'.heap[b]? = w.heap[b]?

/-- A function that is let in has a body. -/
def BodyOk (E : Env0) : Prop := ∀ h, E.ok h = true → ∃ fn c, E.P.funcs[h]? = some fn ∧ fn.body = some c ∧ fn.name ≠ "runtime.NumGoroutine"

theorem run_callFunc {E : Env0} (hb : BodyOk E) {h : FuncId} (ho : E.ok h = true) (args : Array Value) (w : World) : (callFunc h args).run E.P w = .ok (.enter h args) w := by
  obtain ⟨fn, c, h1, h2, h3⟩ := hb h ho
  have h3' : (fn.name == "runtime.NumGoroutine") = false := by simpa using h3
  simp [callFunc, h1, h2, h3, h3']

theorem callA_spec {E : Env0} {r : Rule} {n : Nat} {h : FuncId} {vs : List AV} {dst : Option Nat} {s s1 : St} (hc : callA E r (n + 1) h vs dst s = some s1) :
    ∃ objs hs v h', reach s.heap (s.heap.length + 1) (addNew [] (vs.flatMap ptrsOf)) = some objs ∧ (r.draws = true → ∀ o ∈ objs, above r.mode o = false) ∧ cellsAt s.heap objs = some hs ∧
      call E n h (vs.map (renAV (objs.idxOf ·))) (hs.map fun cs => cs.map (renAV (objs.idxOf ·))) = some (v, h') ∧ (r.draws = true → h'.length ≤ objs.length) ∧
      s1 = St.put (backIn s objs h') dst (renAll (backTo objs s.heap.length) v) := by
  simp only [callA] at hc
  cases h1 : reach s.heap (s.heap.length + 1) (addNew [] (vs.flatMap ptrsOf)) with
  | none => simp [h1] at hc
  | some objs =>
    simp only [h1] at hc
    by_cases h2 : (!r.draws || objs.all (fun o => !above r.mode o)) = true
    · rw [if_pos h2] at hc
      cases h3 : cellsAt s.heap objs with
      | none => simp [h3] at hc
      | some hs =>
        simp only [h3] at hc
        cases h4 : call E n h (vs.map (renAV (objs.idxOf ·))) (hs.map fun cs => cs.map (renAV (objs.idxOf ·))) with
        | none => simp [h4] at hc
        | some vh =>
          obtain ⟨v, h'⟩ := vh
          simp only [h4] at hc
          by_cases h5 : (r.draws && decide (objs.length < h'.length)) = true
          · simp [h5] at hc
          · rw [if_neg h5] at hc
            simp only [Option.some.injEq] at hc
            refine ⟨objs, hs, v, h', rfl, fun hd o ho => ?_, h3, h4, fun hd => ?_, hc.symm⟩
            · simp only [hd, Bool.not_true, Bool.false_or, List.all_eq_true, decide_eq_true_eq] at h2
              simpa using h2 o ho
            · simp only [hd, Bool.true_and, decide_eq_true_eq] at h5
              omega
    · rw [if_neg h2] at hc; cases hc

theorem callA_ok {E : Env0} {r : Rule} {n : Nat} {h : FuncId} {vs : List AV} {dst : Option Nat} {s s1 : St} (hc : callA E r (n + 1) h vs dst s = some s1) : ∃ m, n = m + 1 ∧ E.ok h = true := by
  obtain ⟨objs, hs, v, h', _, _, _, h4, _⟩ := callA_spec hc
  cases n with
  | zero => simp [call] at h4
  | succ m =>
    refine ⟨m, rfl, ?_⟩
    simp only [call] at h4
    split at h4
    · assumption
    · cases h4

/-- One operation. -/
theorem runOp_sound {n : Nat} (hcall : ∀ m, m < n → CallAOk E m) (hb : BodyOk E) {f : FuncId} {r : Rule} {ops : Array Oper} {i : Nat} {o : Oper} (hi : ops[i]? = some o) (h : Rel E X s a w) (hd : ∀ t, o.dst = some t → t < a.tmps.size)
    (hp : runOp E f r ops n o s = some s1) (Q : Exit → Act → World → Prop) (K : Act → World → Prop) (hK : ∀ a' w', After E X w a.tmps.size s1 a' w' → (guardOf ops s o = some true → Quiet X w r ops o w') → K a' w') : wpOp E.P ops Q i K a w := by
  cases n with
  | zero => simp [runOp] at hp
  | succ n =>
    simp only [runOp] at hp
    unfold wpOp
    simp only [hi]
    cases hg : guardOf ops s o with
    | none => simp [hg] at hp
    | some b =>
      have hwant := guard_sound h hg
      rw [hwant]
      cases b with
      | false =>
        simp only [hg, Option.some.injEq] at hp
        subst hp
        simp only [Bool.false_eq_true, if_false]
        refine hK _ _ ?_ (fun e => by rw [hg] at e; cases e)
        cases hdst : o.dst with
        | none => exact ⟨rfl, X, ⟨[], by simp⟩, Ext.refl X w, h⟩
        | some t =>
          obtain ⟨X', hmu, hE, hR⟩ := h.put (v := .skipped) (val := undef) (hd t hdst) rfl
          exact ⟨size_put a _ _, X', ⟨[], by simp [hmu]⟩, hE, hR⟩
      | true =>
        simp only [hg] at hp
        simp only [if_true]
        refine .inl ?_
        unfold Oper.wp
        have simple : ∀ (hns : isCallV o.op = false) (hnst : isStoreOp o.op = false) (hq : (if readsOk E (lookRule r ops o) s o.op then match stepOp E (E.an.flag f (o.dst.getD 0)) (r.draws && !opWrites ops o.op) o.op s with
            | some (v, s1) => some ((s1.del (usedUp o.op)).put o.dst (keepAs (E.an.flag f (o.dst.getD 0)) v)) | none => none else none) = some s1), o.upon E.P a K Q ((execOp a.eval o).run E.P w) := by
          intro hns hnst hq
          split at hq
          · cases hst : stepOp E (E.an.flag f (o.dst.getD 0)) (r.draws && !opWrites ops o.op) o.op s with
            | none => simp [hst] at hq
            | some vs =>
              obtain ⟨v, s2⟩ := vs
              simp only [hst, Option.some.injEq] at hq
              subst hq
              obtain ⟨val, w1, hr, X', hm, hE, hR⟩ := (stepOp_sound h o hst).put (E.an.flag f (o.dst.getD 0)) o.dst hd
              rw [hr, Oper.upon_value]
              exact hK _ _ ⟨size_put a _ _, X', hm, hE h.gdom, hR⟩ (fun _ _ hc => hc.elim (fun e => by rw [hns] at e; cases e) (fun e => by rw [hnst] at e; exact absurd e.1 (by simp)))
          · cases hq
        cases hop : o.op with
        | store t ad x =>
          simp only [hop] at hp
          split at hp
          · rename_i hnone0
            simp only [Bool.and_eq_true] at hnone0
            obtain ⟨hnone, hst⟩ := hnone0
            obtain ⟨w1, X1, hr, hm, hE, hR, hq⟩ := storeOp_sound h o hop hp
            rw [hr, Oper.upon_skip]
            have hdn : o.dst = none := by simpa using hnone
            rw [hdn]
            refine hK _ _ ⟨rfl, X1, hm, hE, hR⟩ (fun _ hd1 hc o1 b1 hmu1 hab => hq o1 b1 hmu1 (fun off he => ?_))
            rcases hc with hc | ⟨_, hc, hgn⟩
            · rw [hop] at hc; cases hc
            · simp only [storesOk, storeRule, hd1, hgn, Bool.and_self, Bool.not_true, Bool.false_or, he, hab, Bool.or_false, beq_iff_eq] at hst
              omega
          · cases hp
        | call c =>
          obtain ⟨callee, args, ts⟩ := c
          cases callee with
          | value g =>
            simp only [hop] at hp
            cases hev : ev E s g with
            | fn hf caps =>
              cases ha : argsOf E s args.toList with
              | none => simp [hev, ha] at hp
              | some vs =>
                simp only [hev, ha] at hp
                cases n with
                | zero => simp [callA] at hp
                | succ n =>
                obtain ⟨m, rfl, hok⟩ := callA_ok hp
                obtain ⟨L, hr⟩ := h.operand g
                rw [hev] at hr
                obtain ⟨cvs, hgv, hcn, hcc⟩ := hr
                have hargs := argsOf_rel h ha
                have hfull : ArgRel w X (vs ++ caps.map fun (o, a) => AV.ptr o a) ((args.toList.map a.eval).toArray ++ cvs) := by
                  obtain ⟨g1, g2⟩ := hargs
                  refine ⟨by simp [hcn]; simpa using g1, fun i u hiu => ?_⟩
                  by_cases hlt : i < vs.length
                  · rw [List.getElem?_append_left hlt] at hiu
                    obtain ⟨g3, g4⟩ := g2 i u hiu
                    have e : ((args.toList.map a.eval).toArray ++ cvs).getD i undef = (args.toList.map a.eval).toArray.getD i undef := by
                      have : i < (args.toList.map a.eval).toArray.size := by rw [g1]; exact hlt
                      simp only [Array.getD_eq_getD_getElem?, Array.getElem?_append_left this]
                    rw [e]; exact ⟨g3, g4⟩
                  · rw [List.getElem?_append_right (by omega), List.getElem?_map] at hiu
                    cases hcap : caps[i - vs.length]? with
                    | none => rw [hcap] at hiu; cases hiu
                    | some oa =>
                      obtain ⟨oo, aa⟩ := oa
                      rw [hcap] at hiu
                      simp at hiu
                      subst hiu
                      obtain ⟨b, hb1, hb2⟩ := hcc (i - vs.length) oo aa hcap
                      have e : ((args.toList.map a.eval).toArray ++ cvs).getD i undef = .pointer (some ⟨b, aa, none⟩) := by
                        have hge : (args.toList.map a.eval).toArray.size ≤ i := by rw [g1]; omega
                        simp only [Array.getD_eq_getD_getElem?, Array.getElem?_append_right hge]
                        rw [g1, hb2]; rfl
                      rw [e]; exact ⟨rfl, b, hb1, rfl⟩
                have hrun : (execOp a.eval o).run E.P w = .ok (.enter hf ((args.toList.map a.eval).toArray ++ cvs)) w := by
                  have e : args.map a.eval = (args.toList.map a.eval).toArray := by apply Array.ext'; simp
                  simp only [execOp, hop, resolve, hgv, Deferred.ofValue, Sem.run_bind, Sem.run_pure, Result.andThen_ok, invoke, e]
                  simpa using run_callFunc hb hok ((args.toList.map a.eval).toArray ++ cvs) w
                rw [hrun, Oper.upon_enter]
                refine (hcall (m + 1 + 1) (by omega) r hf _ o.dst s s1 hp X a w _ h hfull hd).mono ?_
                rintro e w' ⟨val, rfl, haft, hq⟩
                exact hK _ _ haft (fun _ hr _ => hq hr)
            | _ => simp [hev] at hp
          | builtin b => simp only [hop] at hp; exact simple (by rw [hop]; rfl) (by rw [hop]; rfl) (by rw [hop]; exact hp)
          | invoke rc m => simp only [hop] at hp; exact simple (by rw [hop]; rfl) (by rw [hop]; rfl) (by rw [hop]; exact hp)
        | _ => simp only [hop] at hp; exact simple (by rw [hop]; rfl) (by rw [hop]; rfl) (by rw [hop]; exact hp)

end Go.Ab
