/- One operation, whichever it is. -/
import Derived.Test.YtfemjbmfpnpjfaaDoorAbsApp
namespace Go.Ab

variable {E : Env0} {X : Cx} {s s1 : St} {a : Act} {w : World}

/-- Less is said. -/
theorem Rel.less (h : Rel E X s a w) {s' : St} (hlen : s'.heap.length = s.heap.length) (henv : ∀ t, get s'.env t = get s.env t ∨ get s'.env t = .undef) (hheap : ∀ o j, cellOf s'.heap o j = cellOf s.heap o j ∨ cellOf s'.heap o j = .undef)
    (hcs : ∀ (o : Nat) cs, s.heap[o]? = some cs → ∃ cs', s'.heap[o]? = some cs' ∧ cs'.length = cs.length) : Rel E X s' a w := by
  have hct : ∀ p, (content s' p).isOwn = true → content s' p = content s p := by
    intro p hp
    cases p with
    | slot t => rcases henv t with e | e; exact e; (simp only [content] at hp; rw [e] at hp; cases hp)
    | cell o j => rcases hheap o j with e | e; exact e; (simp only [content] at hp; rw [e] at hp; cases hp)
  refine ⟨fun t => ?_, fun t ht => ?_, by rw [hlen]; exact h.mu, fun o cs' ho => ?_, h.gdom, h.amb, h.oamb, h.glob, h.defers⟩
  · rcases henv t with e | e
    · rw [e]
      have ht := h.env t
      generalize get s.env t = c at ht
      cases c with
      | loc p => exact ⟨fun o off e => by rw [hlen]; exact ht.1 o off e, fun ho => ht.2 (by rw [← hct p ho]; exact ho)⟩
      | elt p i off => exact ⟨fun o off e => by rw [hlen]; exact ht.1 o off e, fun xs l ho => ht.2 xs l (by rw [← hct p (by rw [ho]; rfl)]; exact ho)⟩
      | _ => exact ht
    · rw [e]; trivial
  · obtain ⟨v, hv, hne⟩ := ht
    rcases henv t with e | e
    · exact h.bound t ⟨v, by rw [← e]; exact hv, hne⟩
    · rw [e] at hv; exact absurd hv.symm hne
  · have hlt : o < s.heap.length := by rw [← hlen]; exact (List.getElem?_eq_some_iff.1 ho).1
    obtain ⟨b, cur, e, g1, g2, g3, g4, g5⟩ := h.heap o s.heap[o] (by simp [hlt])
    obtain ⟨cs2, h1, h2⟩ := hcs o s.heap[o] (by simp [hlt])
    rw [ho] at h1; cases h1
    refine ⟨b, cur, e, g1, g2, g3, by rw [g4, h2], fun j c hj => ⟨?_, trivial⟩⟩
    have hjl : j < s.heap[o].length := by rw [← h2]; exact (List.getElem?_eq_some_iff.1 hj).1
    have e1 : cellOf s'.heap o j = c := by simp [cellOf, ho, hj]
    have e2 : cellOf s.heap o j = s.heap[o][j] := by simp [cellOf, hlt, hjl]
    rcases hheap o j with e' | e'
    · rw [e1, e2] at e'
      rw [e']
      exact (g5 j _ (by simp [hjl])).1
    · rw [e1] at e'; rw [e']; trivial

theorem get_kill_or (e : Env) (t : Nat) (b : Bool) : get (if b then killPlaced e else e) t = get e t ∨ get (if b then killPlaced e else e) t = .undef := by
  cases b
  · exact .inl rfl
  · simp only [if_true, get_killPlaced]
    cases (get e t).placed <;> simp

theorem Rel.undefPlace (h : Rel E X s a w) (p : Place) : Rel E X (setPlace s p .undef) a w := by
  cases p with
  | slot t =>
    refine h.less rfl (fun u => ?_) (fun o j => .inl rfl) (fun o cs ho => ⟨cs, ho, rfl⟩)
    simp only [setPlace, get_putE]
    by_cases e : t = u
    · simp [e]
    · simp only [e, if_false]; split
      · exact .inr rfl
      · exact .inl rfl
  | cell o off =>
    refine h.less (by simp only [setPlace, setCellA]; split <;> simp) (fun u => ?_) (fun o' j => ?_) (fun o' cs ho => ?_)
    · simp only [setPlace, get_killPlaced]
      cases (get s.env u).placed <;> simp
    · simp only [setPlace, cellOf, heap_setCellA]
      by_cases e : o = o'
      · subst e
        simp only [if_true]
        cases hcs : s.heap[o]? with
        | none => simp
        | some cs =>
          simp only [Option.map_some, List.getElem?_set]
          by_cases e2 : off = j
          · subst e2
            simp only [if_true]
            split
            · exact .inr rfl
            · exact .inr rfl
          · simp [e2]
      · simp [e]
    · simp only [setPlace, heap_setCellA]
      by_cases e : o = o'
      · subst e; simp [ho]
      · simp [e, ho]

theorem Rel.delAll : ∀ (l : List Nat) {s : St}, Rel E X s a w → Rel E X (s.del l) a w
  | [], _, h => h
  | t :: r, s, h => Rel.delAll r (s := { s with env := putE s.env t .undef }) (h.undefPlace (.slot t))

theorem Rel.del (h : Rel E X s a w) (l : List Nat) : Rel E X (s.del l) a w := Rel.delAll l h

/-- What is owned at a place is moved out of it. -/
theorem Rel.moveOut (h : Rel E X s a w) {p : Place} {xs : List D} {l : Bool} (hc : content s p = .own xs l) :
    ∃ X1 val, cval X a w p = some val ∧ X1.mu = X.mu ∧ Ext X w X1 w ∧ Rel E X1 (setPlace s p .undef) a w ∧ OwnOk w X1 (.res 0) xs l val := by
  obtain ⟨val, hv, hown⟩ := h.place hc (by simp) rfl (by simp) (by simp)
  let φ : Loc → Option Loc := fun l => if l = locOf p then some (.res 0) else some l
  have hR := h.undefPlace p
  have hct : content (setPlace s p .undef) p = .undef := by
    cases p with
    | slot t => simp [content, setPlace, get_putE]
    | cell o off =>
      simp only [content, setPlace, cellOf, heap_setCellA, if_true]
      cases hcs : s.heap[o]? with
      | none => rfl
      | some cs =>
        simp only [Option.map_some, List.getElem?_set, if_true]
        split <;> rfl
  refine ⟨X.remap φ, val, hv, rfl, Ext.remap X w φ, hR.bg (Ext.remap X w φ) rfl (fun l' hl h1 h2 b k hx => ⟨?_, rfl⟩) (fun b l' k hx => ?_), OwnOk.ext (Ext.remap X w φ) (fun b k hx => ⟨by rw [Cx.remap_some hx]; simp [φ], rfl⟩) hown⟩
  · rw [Cx.remap_some hx]
    have : l' ≠ locOf p := by
      rintro rfl
      cases p with
      | slot t => exact h1 t 0 rfl hct
      | cell o off => exact h2 o off rfl hct
    simp [φ, this]
  · simp only [Cx.remap] at hx
    split at hx
    · rename_i l0 k0 h0
      exact ⟨h.gdom b l0 k0 h0, h.oamb b l0 k0 h0⟩
    · cases hx

theorem del_setPlace_tmp (s : St) (x : Operand) : (s.del (tmpOf x)).heap = s.heap := by cases x <;> rfl

theorem append_sound (h : Rel E X s a w) (o : Oper) {t u : TypeId} {x y : Operand} {args : Array Operand} {ts : Array TypeId} (ho : o.op = .call { callee := .builtin .append, args := args, argTypes := ts }) (ha : args.toList = [x, y]) (hts : ts.toList = [t, u]) (htu : t = u) {q : Bool} {v : AV}
    (hp : appendOp E q t x y s = some (v, s1)) : Sound E X a w ((execOp a.eval o).run E.P w) v (s1.del (tmpOf x)) := by
  subst htu
  obtain rfl : args = #[x, y] := by apply Array.ext'; simpa using ha
  obtain rfl : ts = #[t, t] := by apply Array.ext'; simpa using hts
  obtain ⟨cs, hcs⟩ := run_call_builtin (P := E.P) ho a w
  have run : ∀ {v' w1}, (Builtin.append_ #[t, t] o.type #[a.eval x, a.eval y]).run E.P w = .ok v' w1 → (execOp a.eval o).run E.P w = .ok (.value v') w1 := by
    intro v' w1 hr
    rw [hcs]
    simp [builtin, hr]
  unfold appendOp at hp
  cases hy : plainC E s y with
  | none => simp [hy] at hp
  | some dy =>
    cases dy with
    | list ys =>
      cases hte : tyElem E.P t with
      | none => simp [hy, hte] at hp
      | some e =>
        cases hb : tyBytes E.P e with
        | none => simp [hy, hte, hb] at hp
        | some b =>
          simp only [hy, hte, hb] at hp
          split at hp
          · rename_i hcond
            obtain ⟨hb0, hb1, hzo, hey⟩ := hcond
            have hry := ev_rel h hy
            generalize hx : ev E s x = c at hp
            cases c with
            | own xs l =>
              simp only at hp
              split at hp
              · rename_i hc2
                simp only [Option.some.injEq, Prod.mk.injEq] at hp
                obtain ⟨rfl, rfl⟩ := hp
                obtain ⟨X1, hmu, hE, hR, hrv, _⟩ := h.take (x := x) (v := .own xs l) (by rw [hx]; rfl) 0
                have hown : OwnOk w X1 (.res 0) xs l (a.eval x) := hrv
                obtain ⟨v', w1, X2, hrun, hmu2, hE2, hR2, hO⟩ := append_core (ty := o.type) hR hte hb hb1 hzo hc2.2 hey hc2.1 hown (hE.rep hry)
                exact ⟨v', w1, X2, run hrun, ⟨[], by simp [hmu2, hmu]⟩, Ext.trans h.gdom hE hE2, hR2, hO⟩
              · cases hp
            | loc p =>
              simp only at hp
              cases hct : content s p with
              | own xs l =>
                simp only [hct] at hp
                split at hp
                · rename_i hc2
                  simp only [Option.some.injEq, Prod.mk.injEq] at hp
                  obtain ⟨rfl, rfl⟩ := hp
                  obtain ⟨X1, val, hv, hmu, hE, hR, hown⟩ := h.moveOut hct
                  obtain ⟨L, hrx⟩ := h.operand x
                  rw [hx] at hrx
                  have hev := hrx.2 (by rw [hct]; rfl)
                  rw [hv] at hev
                  cases hev
                  obtain ⟨v', w1, X2, hrun, hmu2, hE2, hR2, hO⟩ := append_core (ty := o.type) (hR.del (tmpOf x)) hte hb hb1 hzo hc2.2.2 hey hc2.2.1 hown (hE.rep hry)
                  exact ⟨v', w1, X2, run hrun, ⟨[], by simp [hmu2, hmu]⟩, Ext.trans h.gdom hE hE2, hR2, hO⟩
                · cases hp
              | _ => simp [hct] at hp
            | _ => simp at hp
          · cases hp
    | _ => simp [hy] at hp

theorem alloc_sound (h : Rel E X s a w) (o : Oper) {e : TypeId} (ho : o.op = .alloc e) {z : Value} (hz : tyZero E.P e = some z) :
    Sound E X a w ((execOp a.eval o).run E.P w) (.ptr s.heap.length 0) { s with heap := s.heap ++ [(constAV z).cells] } := by
  obtain ⟨h1, h2⟩ := const_cells w X .res z
  obtain ⟨X', hmu, hE, hR⟩ := h.newVar (constAV z).cells z.cells e h1 h2
  refine ⟨.pointer (some ⟨w.heap.size, 0, none⟩), _, X', ?_, ⟨_, hmu⟩, hE, hR, w.heap.size, ?_, rfl⟩
  · simp [execOp, ho, Instr.alloc, run_zeroValue' hz, newVar, newRow]
  · rw [hmu, List.getElem?_append_right (by rw [h.mu]; exact Nat.le_refl _), h.mu]; simp

theorem box_sound (h : Rel E X s a w) (o : Oper) {e : TypeId} {x : Operand} (ho : o.op = .box e x) {v : AV} (hm : movable (ev E s x) = some v) :
    Sound E X a w ((execOp a.eval o).run E.P w) (.ptr s.heap.length 0) (St.del { s with heap := s.heap ++ [v.cells] } (tmpOf x)) := by
  obtain ⟨X1, hmu, hE, hR, hrv, _⟩ := h.take hm 0
  have hvm : movable v = some v := by
    generalize ev E s x = c at hm
    cases c <;> simp [movable] at hm <;> subst hm <;> rfl
  simp only [Nat.zero_add] at hrv
  obtain ⟨h1, h2⟩ := cells_rel hvm hrv
  obtain ⟨X', hmu', hE', hR'⟩ := hR.newVar v.cells (a.eval x).cells e h1 h2
  refine ⟨.pointer (some ⟨w.heap.size, 0, none⟩), _, X', ?_, ⟨[w.heap.size], by rw [hmu', hmu]⟩, Ext.trans h.gdom hE hE', ?_, w.heap.size, ?_, rfl⟩
  · simp [execOp, ho, Instr.box, newVar, newRow]
  · have : St.del { s with heap := s.heap ++ [v.cells] } (tmpOf x) = { (s.del (tmpOf x)) with heap := (s.del (tmpOf x)).heap ++ [v.cells] } := by cases x <;> rfl
    rw [this]
    exact hR'
  · rw [hmu', hmu, List.getElem?_append_right (by rw [h.mu]; exact Nat.le_refl _), h.mu]; simp

end Go.Ab
