/- Code is walked: what the abstract machine computes, the model computes. -/
import Derived.Test.YtfemjbmfpnpjfaaDoorAbsOps1
import Derived.Tactics
namespace Go.Ab

variable {E : Env0} {X : Cx} {s s1 : St} {a : Act} {w : World}

/-- What holds of a region that draws its order; checked elsewhere. -/
def DrawOk (E : Env0) (check : Nat → Nat → Array Oper → Bool) : Prop :=
  ∀ n, (∀ m, m < n → CallAOk E m) → ∀ (f : FuncId) (id : Nat) (ops : Array Oper) (s s1 : St), check f id ops = true → freshB E.an f ops s = true → agree ((E.an.order f id).map fun l => runOps E f { draws := true, mode := E.an.mode f id } ops n (ordered ops l) s) = some s1 →
    ∀ (X : Cx) (a : Act) (w : World), Rel E X s a w → (∀ o ∈ ops, ∀ t, o.dst = some t → t < a.tmps.size) → (∀ K : Act → World → Prop, (∀ a' w', After E X w a.tmps.size s1 a' w' → K a' w') → (Code.region id ops true).wp E.P (fun e a' w' => e = .normal ∧ K a' w') a w)

/-- The parts of a body are as the walk needs them. -/
def codeOk (check : Nat → Nat → Array Oper → Bool) (f : Nat) (nt : Nat) : Code → Bool
  | .region id ops draw => (ops.all fun o => match o.dst with | some t => decide (t < nt) | none => true) && (!draw || check f id ops)
  | .seq a b | .cond _ a b => codeOk check f nt a && codeOk check f nt b
  | .block _ b | .loop b => codeOk check f nt b
  | _ => true

def exitOf : Ex → Exit
  | .normal => .normal
  | .exit id => .exit id
  | .ret => .ret

theorem runOps_sound {n : Nat} (hcall : ∀ m, m < n → CallAOk E m) (hb : BodyOk E) {f : FuncId} {r : Rule} {ops : Array Oper} : ∀ (l : List Oper) (k n' : Nat) {X : Cx} {s s1 : St} {a : Act} {w : World}, n' ≤ n → (∀ j, l[j]? = ops[k + j]?) →
    (∀ o ∈ l, ∀ t, o.dst = some t → t < a.tmps.size) → runOps E f r ops n' l s = some s1 → Rel E X s a w → ∀ (K : Exit → Act → World → Prop), (∀ a' w', After E X w a.tmps.size s1 a' w' → K .normal a' w') → wpOps E.P ops K (List.range' k l.length) a w
  | [], k, n', X, s, s1, a, w, hn, hl, hd, hp, h, K, hK => by
    rw [runOps_nil, Option.some.injEq] at hp
    subst hp
    exact hK _ _ ⟨rfl, X, ⟨[], by simp⟩, Ext.refl X w, h⟩
  | o :: l, k, n', X, s, s1, a, w, hn, hl, hd, hp, h, K, hK => by
    · rw [runOps_cons] at hp
      cases hr : runOp E f r ops n' o s with
      | none => simp [hr] at hp
      | some s2 =>
        simp only [hr] at hp
        have h0 : ops[k]? = some o := by simpa using (hl 0).symm
        rw [List.length_cons, List.range'_succ, wpOps_cons]
        refine runOp_sound (fun m' hm' => hcall m' (by omega)) hb h0 h (fun t ht => hd o (by simp) t ht) hr _ _ (fun a' w' haft _ => ?_)
        obtain ⟨hsz, X', hm, hE, hR⟩ := haft
        refine runOps_sound hcall hb l (k + 1) n' hn (fun j => by have := hl (j + 1); simpa [Nat.add_assoc, Nat.add_comm 1 j] using this) (fun o' ho' t ht => by rw [hsz]; exact hd o' (by simp [ho']) t ht) hp hR K (fun a2 w2 h2 => hK _ _ ?_)
        rw [hsz] at h2
        exact After.trans h.gdom hm hE h2

theorem Rel.clear (h : Rel E X s a w) (l : List Nat) : Rel E X { s with env := clearE s.env l } a w := by
  refine h.less (s' := { s with env := clearE s.env l }) rfl (fun t => ?_) (fun o j => .inl rfl) (fun o cs hcs => ⟨cs, hcs, rfl⟩)
  show get (clearE s.env l) t = get s.env t ∨ _
  generalize s.env = e
  induction l generalizing e with
  | nil => exact .inl rfl
  | cons k r ih =>
    simp only [clearE]
    rcases ih (eraseE e k) with h1 | h1
    · rw [h1, get_eraseE]
      split
      · exact .inr rfl
      · exact .inl rfl
    · exact .inr h1

theorem After.clear {w0 : World} {nt : Nat} (l : List Nat) (h : After E X w0 nt s a w) : After E X w0 nt { s with env := clearE s.env l } a w := by
  obtain ⟨h1, X', hm, hE, hR⟩ := h
  exact ⟨h1, X', hm, hE, hR.clear l⟩

/-! ### Variables dropped -/
def φtrim (m : Nat) : Loc → Option Loc
  | .blk o => if o < m then some (.blk o) else none
  | .cell o j => if o < m then some (.cell o j) else none
  | l => some l
def Cx.trim (X : Cx) (m : Nat) : Cx := { X.remap (φtrim m) with mu := X.mu.take m }
theorem trim_ext (X : Cx) (w : World) (m : Nat) : Ext X w (X.trim m) w := ⟨rfl, Nat.le_refl _, rfl, rfl, rfl, (Ext.remap X w (φtrim m)).free, (Ext.remap X w (φtrim m)).own⟩

theorem RVl.trim {m : Nat} {l : Loc} {c : AV} {v : Value} (hp : ∀ o ∈ ptrsOf c, o < m) (hl : φtrim m l = some l) (h : RVl w X l c v) : RVl w (X.trim m) l c v := by
  have hm : ∀ o ∈ ptrsOf c, ∀ b, X.mu[o]? = some b → (X.trim m).mu[o]? = some b := by
    intro o ho b hb
    show (X.mu.take m)[o]? = some b
    rw [List.getElem?_take, if_pos (hp o ho)]
    exact hb
  cases c with
  | own xs lt => exact OwnOk.ext (trim_ext X w m) (fun b k e => ⟨by show (X.remap (φtrim m)).G b = _; rw [Cx.remap_some e, hl]; rfl, rfl⟩) h
  | undef => trivial
  | skipped => exact h
  | d x => exact (trim_ext X w m).rep h
  | ptr o off => obtain ⟨b, hb, hv⟩ := h; exact ⟨b, hm o (by simp [ptrsOf]) b hb, hv⟩
  | view cs =>
    obtain ⟨b, off, hv, hh⟩ := h
    exact ⟨b, off, hv, fun j c hj => let ⟨u, h1, h2, h3⟩ := hh j c hj; ⟨u, ((trim_ext X w m).point h1 h2).1, ((trim_ext X w m).point h1 h2).2, (trim_ext X w m).rep h3⟩⟩
  | fn f caps =>
    obtain ⟨vs, hv, hn, hh⟩ := h
    exact ⟨vs, hv, hn, fun j o a hj => let ⟨b, hb, hu⟩ := hh j o a hj; ⟨b, hm o (by simp only [ptrsOf]; exact List.mem_map.2 ⟨_, List.mem_of_getElem? hj, rfl⟩) b hb, hu⟩⟩
  | loc p => exact h
  | elt p i off => exact h
  | agg cs => exact h
  | tup cs => exact h

theorem get_dropE (m : Nat) (e : Env) (u : Nat) : get (dropE m e) u = if (ptrsDeep (get e u)).all (fun o => decide (o < m)) then get e u else .undef := by
  induction e with
  | nil => simp [dropE, get, ptrsDeep, ptrsOf]
  | cons p r ih =>
    obtain ⟨k, x⟩ := p
    simp only [dropE]
    by_cases hx : (ptrsDeep x).all (fun o => decide (o < m)) = true
    · rw [if_pos hx]
      simp only [get]
      by_cases h : k = u
      · simp only [h, if_true, hx]
      · simp only [h, if_false, ih]
    · rw [if_neg hx, get_eraseE]
      simp only [get]
      by_cases h : k = u
      · simp only [h, if_true]; rw [if_neg hx]
      · simp only [h, if_false, ih]

theorem Rel.trimAt (h : Rel E X s a w) {m : Nat} (hm : m ≤ s.heap.length) (hok : trimOk m s.heap = true) : Rel E (X.trim m) { env := dropE m s.env, heap := s.heap.take m } a w := by
  have hp : ∀ o cs, o < m → s.heap[o]? = some cs → ∀ c ∈ cs, ∀ p ∈ ptrsOf c, p < m := by
    intro o cs ho hcs c hc p hpp
    simp only [trimOk, List.all_eq_true, decide_eq_true_eq] at hok
    exact hok cs (List.mem_of_getElem? (by rw [List.getElem?_take, if_pos ho]; exact hcs)) c hc p hpp
  have hcell : ∀ o off, o < m → cellOf (s.heap.take m) o off = cellOf s.heap o off := by
    intro o off ho
    simp only [cellOf, List.getElem?_take, if_pos ho]
  have hmu : ∀ o, o < m → (X.mu.take m)[o]? = X.mu[o]? := by
    intro o ho
    rw [List.getElem?_take, if_pos ho]
  refine ⟨fun t => ?_, fun t ht => ?_, ?_, fun o cs hcs => ?_, fun b l k e => ?_, h.amb, fun b l k e => ?_, fun g cs hg j c hj => ?_, h.defers⟩
  · show RVe _ _ a w _ (get (dropE m s.env) t) _
    rw [get_dropE]
    split
    · rename_i hd
      simp only [List.all_eq_true, decide_eq_true_eq] at hd
      have ht := h.env t
      generalize get s.env t = v at ht hd
      have leaf : ∀ (L : Nat → Loc) (c : AV) (v : Value), (∀ j, L j = .slot t j) → (∀ o ∈ ptrsOf c, o < m) → ∀ j, RVl w X (L j) c v → RVl w (X.trim m) (L j) c v :=
        fun L c v hL hc j hr => RVl.trim hc (by rw [hL]; rfl) hr
      cases v with
      | loc p =>
        refine ⟨fun o off e => ?_, fun ho => ?_⟩
        · subst e
          have : o < m := hd o (by simp [ptrsDeep])
          show o < (s.heap.take m).length
          rw [List.length_take]; omega
        · cases p with
          | slot u =>
            refine ht.2 ?_
            have ho' : (get (dropE m s.env) u).isOwn = true := ho
            rw [get_dropE] at ho'
            split at ho'
            · exact ho'
            · cases ho'
          | cell o off =>
            have hlt : o < m := hd o (by simp [ptrsDeep])
            have ho' : (cellOf (s.heap.take m) o off).isOwn = true := ho
            rw [hcell o off hlt] at ho'
            have := ht.2 ho'
            simp only [cval] at this ⊢
            show (match (X.mu.take m)[o]? with | some b => w.cell? ⟨b, off, none⟩ | none => none) = _
            rw [hmu o hlt]; exact this
      | elt p i off =>
        refine ⟨fun o off e => ?_, fun xs l hc => ?_⟩
        · subst e
          have : o < m := hd o (by simp [ptrsDeep])
          show o < (s.heap.take m).length
          rw [List.length_take]; omega
        · cases p with
          | slot u =>
            refine ht.2 xs l ?_
            have hc' : get (dropE m s.env) u = .own xs l := hc
            rw [get_dropE] at hc'
            split at hc'
            · exact hc'
            · cases hc'
          | cell o off' =>
            have hlt : o < m := hd o (by simp [ptrsDeep])
            have hc' : cellOf (s.heap.take m) o off' = .own xs l := hc
            rw [hcell o off' hlt] at hc'
            obtain ⟨b, o0, n, cap, sz, h1, h2, h3⟩ := ht.2 xs l hc'
            refine ⟨b, o0, n, cap, sz, ?_, h2, h3⟩
            simp only [cval] at h1 ⊢
            show (match (X.mu.take m)[o]? with | some b => w.cell? ⟨b, off', none⟩ | none => none) = _
            rw [hmu o hlt]; exact h1
      | agg cs =>
        obtain ⟨vs, hv, hn, hh⟩ := ht
        exact ⟨vs, hv, hn, fun j c hj => leaf (.slot t) c _ (fun _ => rfl) (fun o ho => hd o (List.mem_flatMap.2 ⟨c, List.mem_of_getElem? hj, ho⟩)) j (hh j c hj)⟩
      | tup cs =>
        obtain ⟨vs, hv, hn, hh⟩ := ht
        exact ⟨vs, hv, hn, fun j c hj => ⟨(hh j c hj).1, leaf (.slot t) c _ (fun _ => rfl) (fun o ho => hd o (List.mem_flatMap.2 ⟨c, List.mem_of_getElem? hj, ho⟩)) j (hh j c hj).2⟩⟩
      | undef => trivial
      | skipped => exact ht
      | d x => exact leaf (.slot t) (.d x) _ (fun _ => rfl) (fun o ho => hd o ho) 0 ht
      | own xs l => exact leaf (.slot t) (.own xs l) _ (fun _ => rfl) (fun o ho => hd o ho) 0 ht
      | ptr o off => exact leaf (.slot t) (.ptr o off) _ (fun _ => rfl) (fun o ho => hd o ho) 0 ht
      | view cs => exact leaf (.slot t) (.view cs) _ (fun _ => rfl) (fun o ho => hd o ho) 0 ht
      | fn f cs => exact leaf (.slot t) (.fn f cs) _ (fun _ => rfl) (fun o ho => hd o ho) 0 ht
    · trivial
  · obtain ⟨v, hv, hne⟩ := ht
    refine h.bound t ⟨_, rfl, fun e => hne ?_⟩
    rw [← hv]
    show get (dropE m s.env) t = _
    rw [get_dropE, e]
    split <;> rfl
  · show (X.mu.take m).length = (s.heap.take m).length
    simp [h.mu]
  · have hlt : o < m := by
      have := (List.getElem?_eq_some_iff.1 hcs).1
      simp at this; omega
    have hcs' : (s.heap.take m)[o]? = some cs := hcs
    rw [List.getElem?_take, if_pos hlt] at hcs'
    obtain ⟨b, cur, e, g1, g2, g3, g4, g5⟩ := h.heap o cs hcs'
    refine ⟨b, cur, e, ?_, ?_, g3, g4, fun j c hj => ⟨RVl.trim (fun p hpp => hp o cs hlt hcs' c (List.mem_of_getElem? hj) p hpp) (by simp [φtrim, hlt]) (g5 j c hj).1, trivial⟩⟩
    · show (X.mu.take m)[o]? = some b
      rw [List.getElem?_take, if_pos hlt]; exact g1
    · show (X.remap (φtrim m)).G b = _
      rw [Cx.remap_some g2]; simp [φtrim, hlt]
  · have e' : (X.remap (φtrim m)).G b = some (l, k) := e
    simp only [Cx.remap] at e'
    split at e'
    · rename_i l0 k0 h0; exact h.gdom b l0 k0 h0
    · cases e'
  · have e' : (X.remap (φtrim m)).G b = some (l, k) := e
    simp only [Cx.remap] at e'
    split at e'
    · rename_i l0 k0 h0; exact h.oamb b l0 k0 h0
    · cases e'
  · obtain ⟨u, h1, h2, h3⟩ := h.glob g cs hg j c hj
    exact ⟨u, ((trim_ext X w m).point h1 h2).1, ((trim_ext X w m).point h1 h2).2, (trim_ext X w m).rep h3⟩

theorem After.trim {w0 : World} {nt m : Nat} (hg : ∀ b l k, X.G b = some (l, k) → b < w0.heap.size) (hm : X.mu.length = m) (h : After E X w0 nt s a w) : After E X w0 nt (trim m s) a w := by
  unfold Ab.trim
  split
  · rename_i hok
    obtain ⟨h1, X', ⟨more, hmo⟩, hE, hR⟩ := h
    have hle : m ≤ s.heap.length := by rw [← hR.mu, hmo, List.length_append]; omega
    refine ⟨h1, X'.trim m, ⟨[], ?_⟩, Ext.trans hg hE (trim_ext X' w m), hR.trimAt hle hok⟩
    show X'.mu.take m = X.mu ++ []
    rw [hmo, List.append_nil, ← hm, List.take_left]
  · exact h

/-- A loop at its head. -/
def LoopWp (P : Program) (c : Code) (Q : Exit → Act → World → Prop) (a : Act) (w : World) : Prop :=
  ∀ (b : Frame) (k : List Item) (cs : List Frame), ∃ e a' w', Q e a' w' ∧ Arrives P (lone (b.at a (.code c :: .inLoop c :: k)) cs w) b k cs e a' w'

theorem LoopWp.start {P : Program} {c : Code} {Q : Exit → Act → World → Prop} (h : LoopWp P c Q a w) : (Code.loop c).wp P Q a w := by
  intro b k cs
  obtain ⟨e, a', w', hq, harr⟩ := h b k cs
  exact ⟨e, a', w', hq, .of_steps (.one step_loop) harr⟩

theorem LoopWp.round {P : Program} {c : Code} {Q : Exit → Act → World → Prop} (h : c.wp P (Exit.then (LoopWp P c Q) Q) a w) : LoopWp P c Q a w := by
  intro b k cs
  obtain ⟨e, a₁, w₁, hq, harr⟩ := h b (.inLoop c :: k) cs
  cases e with
  | normal =>
    obtain ⟨e₂, a₂, w₂, hq₂, harr₂⟩ := hq b k cs
    exact ⟨e₂, a₂, w₂, hq₂, .of_steps (Steps.trans harr (.one step_inLoop)) harr₂⟩
  | exit id => exact ⟨_, a₁, w₁, hq, .pass (x := .inLoop c) rfl (fun _ _ => .inl (by simp)) harr⟩
  | goto l => exact ⟨_, a₁, w₁, hq, .pass (x := .inLoop c) rfl (fun _ _ => .inl (by simp)) harr⟩
  | ret => exact ⟨_, a₁, w₁, hq, .pass (x := .inLoop c) rfl (fun _ _ => .inl (by simp)) harr⟩
  | panic ch => exact ⟨_, a₁, w₁, hq, .pass (x := .inLoop c) rfl (fun _ _ => .inl (by simp)) harr⟩
  | outgrown => exact ⟨_, a₁, w₁, hq, .pass (x := .inLoop c) rfl (fun _ _ => .inl (by simp)) harr⟩

/-- How code ends, and in what. -/
def EndOk (E : Env0) (X : Cx) (w : World) (nt : Nat) (r : Ex) (s1 : St) (e : Exit) (a' : Act) (w' : World) : Prop := e = exitOf r ∧ After E X w nt s1 a' w'

theorem exec_sound {check : Nat → Nat → Array Oper → Bool} (hb : BodyOk E) (hd : DrawOk E check) : ∀ (n : Nat), (∀ m, m < n → CallAOk E m) →
    (∀ (f : FuncId) (c : Code) (s s1 : St) (r : Ex), exec E f n c s = some (r, s1) → ∀ (X : Cx) (a : Act) (w : World), codeOk check f a.tmps.size c = true → Rel E X s a w → c.wp E.P (EndOk E X w a.tmps.size r s1) a w) ∧
    (∀ (f : FuncId) (c : Code) (s s1 : St) (r : Ex), exec E f n (.loop c) s = some (r, s1) → ∀ (X : Cx) (a : Act) (w : World), codeOk check f a.tmps.size c = true → Rel E X s a w → LoopWp E.P c (EndOk E X w a.tmps.size r s1) a w)
  | 0, _ => ⟨fun f c s s1 r hp => by simp [exec] at hp, fun f c s s1 r hp => by simp [exec] at hp⟩
  | n + 1, hcall => by
    obtain ⟨ih1, ih2⟩ := exec_sound hb hd n (fun m hm => hcall m (by omega))
    have loops : ∀ (f : FuncId) (c : Code) (s s1 : St) (r : Ex), exec E f (n + 1) (.loop c) s = some (r, s1) → ∀ (X : Cx) (a : Act) (w : World), codeOk check f a.tmps.size c = true → Rel E X s a w → LoopWp E.P c (EndOk E X w a.tmps.size r s1) a w := by
      intro f c s s1 r hp X a w hok h
      simp only [exec] at hp
      refine LoopWp.round ?_
      cases hc : exec E f n c s with
      | none => simp [hc] at hp
      | some q =>
        obtain ⟨r1, s2⟩ := q
        refine wp_mono (ih1 f c s s2 r1 hc X a w hok h) ?_
        rintro e a' w' ⟨rfl, haft⟩
        rw [hc] at hp
        cases r1 with
        | normal =>
          simp only at hp
          obtain ⟨hsz, X', hm, hE, hR⟩ := haft.trim h.gdom h.mu
          show LoopWp E.P c _ a' w'
          have := ih2 f c _ s1 r hp X' a' w' (by rw [hsz]; exact hok) hR
          intro b k cs
          obtain ⟨e2, a2, w2, ⟨he, h2⟩, harr⟩ := this b k cs
          rw [hsz] at h2
          exact ⟨e2, a2, w2, ⟨he, After.trans h.gdom hm hE h2⟩, harr⟩
        | exit id => simp only [Option.some.injEq, Prod.mk.injEq] at hp; obtain ⟨rfl, rfl⟩ := hp; exact ⟨rfl, haft⟩
        | ret => simp only [Option.some.injEq, Prod.mk.injEq] at hp; obtain ⟨rfl, rfl⟩ := hp; exact ⟨rfl, haft⟩
    refine ⟨fun f c s s1 r hp X a w hok h => ?_, loops⟩
    have triv : After E X w a.tmps.size s a w := ⟨rfl, X, ⟨[], by simp⟩, Ext.refl X w, h⟩
    cases c with
    | skip => simp only [exec, Option.some.injEq, Prod.mk.injEq] at hp; obtain ⟨rfl, rfl⟩ := hp; exact wp_skip ⟨rfl, triv⟩
    | label l => simp only [exec, Option.some.injEq, Prod.mk.injEq] at hp; obtain ⟨rfl, rfl⟩ := hp; exact wp_label ⟨rfl, triv⟩
    | exit id => simp only [exec, Option.some.injEq, Prod.mk.injEq] at hp; obtain ⟨rfl, rfl⟩ := hp; exact wp_exit ⟨rfl, triv⟩
    | ret => simp only [exec, Option.some.injEq, Prod.mk.injEq] at hp; obtain ⟨rfl, rfl⟩ := hp; exact wp_ret ⟨rfl, triv⟩
    | region id ops draw =>
      simp only [codeOk, Bool.and_eq_true] at hok
      obtain ⟨hds, hdr⟩ := hok
      have hds' : ∀ o ∈ ops, ∀ t, o.dst = some t → t < a.tmps.size := fun o ho t ht => by
        have := Array.all_eq_true_iff_forall_mem.1 hds o ho
        simpa [ht] using this
      rw [exec_region] at hp
      cases draw with
      | false =>
        simp only [Bool.false_eq_true, if_false] at hp
        cases hr : runOps E f { draws := false, mode := E.an.mode f id } ops n ops.toList s with
        | none => simp [hr] at hp
        | some s2 =>
          simp only [hr, Option.some.injEq, Prod.mk.injEq] at hp
          obtain ⟨rfl, rfl⟩ := hp
          refine wp_region ?_
          rw [List.range_eq_range', ← Array.length_toList]
          exact runOps_sound (fun m hm => hcall m (by omega)) hb ops.toList 0 n (Nat.le_refl _) (fun j => by simp) (fun o ho t ht => hds' o (by simpa using ho) t ht) hr h _ (fun a' w' haft => ⟨rfl, haft.clear _⟩)
      | true =>
        simp only [if_true] at hp
        have hfr : freshB E.an f ops s = true := by
          cases hfb : freshB E.an f ops s with
          | true => rfl
          | false => simp [hfb] at hp
        simp only [hfr, Bool.true_eq_false, if_false] at hp
        cases hr : agree ((E.an.order f id).map fun l => runOps E f { draws := true, mode := E.an.mode f id } ops n (ordered ops l) s) with
        | none => simp [hr] at hp
        | some s2 =>
          simp only [hr, Option.some.injEq, Prod.mk.injEq] at hp
          obtain ⟨rfl, rfl⟩ := hp
          refine wp_mono (hd n (fun m hm => hcall m (by omega)) f id ops s s2 (by simpa using hdr) hfr hr X a w h hds' (fun a' w' => After E X w a.tmps.size { s2 with env := clearE s2.env (E.an.clear f id) } a' w') (fun a' w' haft => haft.clear _)) ?_
          rintro e a' w' ⟨rfl, haft⟩
          exact ⟨rfl, haft⟩
    | seq x y =>
      simp only [codeOk, Bool.and_eq_true] at hok
      simp only [exec] at hp
      refine wp_seq ?_
      cases hc : exec E f n x s with
      | none => simp [hc] at hp
      | some q =>
        obtain ⟨r1, s2⟩ := q
        refine wp_mono (ih1 f x s s2 r1 hc X a w hok.1 h) ?_
        rintro e a' w' ⟨rfl, haft⟩
        rw [hc] at hp
        cases r1 with
        | normal =>
          simp only at hp
          obtain ⟨hsz, X', hm, hE, hR⟩ := haft
          show y.wp E.P _ a' w'
          refine wp_mono (ih1 f y s2 s1 r hp X' a' w' (by rw [hsz]; exact hok.2) hR) ?_
          rintro e2 a2 w2 ⟨he, h2⟩
          rw [hsz] at h2
          exact ⟨he, After.trans h.gdom hm hE h2⟩
        | exit id => simp only [Option.some.injEq, Prod.mk.injEq] at hp; obtain ⟨rfl, rfl⟩ := hp; exact ⟨rfl, haft⟩
        | ret => simp only [Option.some.injEq, Prod.mk.injEq] at hp; obtain ⟨rfl, rfl⟩ := hp; exact ⟨rfl, haft⟩
    | cond x c1 c2 =>
      simp only [codeOk, Bool.and_eq_true] at hok
      simp only [exec] at hp
      split at hp
      · rename_i t hx
        exact wp_cond (h.evv hx) (ih1 f _ s s1 r hp X a w (by cases t <;> simp [hok]) h)
      · cases hp
    | block id b =>
      simp only [codeOk] at hok
      simp only [exec] at hp
      refine wp_block ?_
      cases hc : exec E f n b s with
      | none => simp [hc] at hp
      | some q =>
        obtain ⟨r1, s2⟩ := q
        refine wp_mono (ih1 f b s s2 r1 hc X a w hok h) ?_
        rintro e a' w' ⟨rfl, haft⟩
        rw [hc] at hp
        cases r1 with
        | normal => simp only [Option.some.injEq, Prod.mk.injEq] at hp; obtain ⟨rfl, rfl⟩ := hp; exact ⟨rfl, haft.trim h.gdom h.mu⟩
        | exit id' =>
          simp only at hp
          split at hp
          · rename_i hid
            simp only [Option.some.injEq, Prod.mk.injEq] at hp; obtain ⟨rfl, rfl⟩ := hp
            simp only [exitOf, Exit.inBlock, hid, if_true]
            exact ⟨rfl, haft.trim h.gdom h.mu⟩
          · rename_i hid
            simp only [Option.some.injEq, Prod.mk.injEq] at hp; obtain ⟨rfl, rfl⟩ := hp
            simp only [exitOf, Exit.inBlock, hid, if_false]
            exact ⟨rfl, haft⟩
        | ret => simp only [Option.some.injEq, Prod.mk.injEq] at hp; obtain ⟨rfl, rfl⟩ := hp; exact ⟨rfl, haft⟩
    | loop b => exact LoopWp.start (loops f b s s1 r hp X a w (by simpa only [codeOk] using hok) h)
    | _ => simp [exec] at hp

end Go.Ab
