/- Operations on registers. -/
import Derived.Test.YtfemjbmfpnpjfaaDoorAbsStore
import Derived.Laws.Strings
namespace Go.Ab

variable {E : Env0} {X : Cx} {s s1 : St} {a : Act} {w : World}

theorem Rel.val (h : Rel E X s a w) {x : Operand} {v : Value} (hx : plainC E s x = some (.v v)) : a.eval x = v := rep_value (ev_rel h hx)
theorem Rel.valOne (h : Rel E X s a w) {x : Operand} {v : Value} (hx : plainC E s x = some (.v v)) : v.oneCell' = true := by
  have := ev_rel h hx
  cases this with | v _ h1 => exact h1
theorem Rel.evv (h : Rel E X s a w) {x : Operand} {v : Value} (hx : ev E s x = .d (.v v)) : a.eval x = v := by
  obtain ⟨L, hr⟩ := h.operand x
  rw [hx] at hr
  exact rep_value hr
theorem Rel.evd (h : Rel E X s a w) {x : Operand} {d : D} (hx : ev E s x = .d d) : Rep w X.imm d (a.eval x) := by
  obtain ⟨L, hr⟩ := h.operand x
  rw [hx] at hr
  exact hr

theorem pick_sound (h : Rel E X s a w) (o : Oper) {c x y : Operand} (ho : o.op = .pick c x y) {t : Bool} {d : D} (hc : ev E s c = .d (.v (.bool t))) (hp : plainC E s (if t then x else y) = some d) :
    Sound E X a w ((execOp a.eval o).run E.P w) (.d d) s := by
  have h1 := h.evv hc
  have h2 := ev_rel h hp
  refine Sound.same (val := a.eval (if t then x else y)) h ?_ (RVe_d h2)
  cases t <;> simp [execOp, ho, h1, asBool]

theorem nilCheck_sound (h : Rel E X s a w) (o : Oper) {x : Operand} (ho : o.op = .nilCheck x) {v : AV}
    (hp : (match ev E s x with | .ptr o off => some (AV.ptr o off, s) | .view cs => some (.view cs, s) | .elt p i off => if (content s p).isOwn then some (.elt p i off, s) else none | .fn f cs => some (.fn f cs, s) | _ => none) = some (v, s1)) :
    Sound E X a w ((execOp a.eval o).run E.P w) v s1 := by
  obtain ⟨L, hr⟩ := h.operand x
  generalize hc : ev E s x = c at hp hr
  cases c with
  | ptr ob off =>
    simp only [Option.some.injEq, Prod.mk.injEq] at hp
    obtain ⟨rfl, rfl⟩ := hp
    obtain ⟨b, hb, hv⟩ := id hr
    exact Sound.same h (val := a.eval x) (by simp [execOp, ho, hv]) hr
  | view cs =>
    simp only [Option.some.injEq, Prod.mk.injEq] at hp
    obtain ⟨rfl, rfl⟩ := hp
    obtain ⟨b, off, hv, _⟩ := id hr
    exact Sound.same h (val := a.eval x) (by simp [execOp, ho, hv]) hr
  | elt p i off =>
    simp only at hp
    split at hp
    · rename_i hown
      simp only [Option.some.injEq, Prod.mk.injEq] at hp
      obtain ⟨rfl, rfl⟩ := hp
      obtain ⟨xs, l, hxs⟩ : ∃ xs l, content s p = .own xs l := by
        generalize content s p = c at hown
        cases c <;> first | exact ⟨_, _, rfl⟩ | cases hown
      obtain ⟨b, o0, n, cap, sz, _, _, hv⟩ := hr.2 xs l hxs
      exact Sound.same h (val := a.eval x) (by simp [execOp, ho, hv]) hr
    · cases hp
  | fn f cs =>
    simp only [Option.some.injEq, Prod.mk.injEq] at hp
    obtain ⟨rfl, rfl⟩ := hp
    obtain ⟨vs, hv, _⟩ := id hr
    exact Sound.same h (val := a.eval x) (by simp [execOp, ho, hv]) hr
  | _ => cases hp


/-! ### Numbers, Bools, strings -/

theorem eqGuard_run {P : Program} {w : World} (op : BinOp) (t : TypeId) (x y : Operand) (u v : Value) (h : (∀ cs, u ≠ .agg cs) ∧ u ≠ .nilIface) : (eqGuard op t x y u v).run P w = .ok () w := by
  cases u <;> first | exact absurd rfl h.2 | exact absurd rfl (h.1 _) | (unfold eqGuard; cases op <;> simp)

theorem string_toList (l : List UInt8) : (ByteArray.mk ⟨l⟩).toList = l := by rw [Go.ByteArray.toList_eq]

theorem int_beq (a b : Int) : (a == b) = decide (a = b) := by rw [Bool.eq_iff_iff]; simp
theorem int_bne (a b : Int) : (a != b) = !decide (a = b) := by rw [bne, int_beq]
theorem bytes_beq (a b : List UInt8) : (a == b) = decide (a = b) := by rw [Bool.eq_iff_iff]; simp
theorem bytes_append (a b : List UInt8) : (ByteArray.mk ⟨a⟩ ++ ByteArray.mk ⟨b⟩) = ByteArray.mk ⟨a ++ b⟩ := by
  apply ByteArray.ext; simp
theorem bytes_size (a : List UInt8) : (ByteArray.mk ⟨a⟩).size = a.length := rfl

theorem binV_run {P : Program} {w : World} {op : BinOp} {t : TypeId} {x y r : Value} (h : binV op x y = some r) :
    (binOp op t x y).run P w = .ok r w ∧ r.oneCell' = true ∧ (∀ cs, x ≠ .agg cs) ∧ x ≠ .nilIface := by
  have fin : ∀ {v : Value}, v = r → (binOp op t x y).run P w = .ok v w → v.oneCell' = true → (∀ cs, x ≠ .agg cs) → x ≠ .nilIface → (binOp op t x y).run P w = .ok r w ∧ r.oneCell' = true ∧ (∀ cs, x ≠ .agg cs) ∧ x ≠ .nilIface := by
    rintro v rfl h1 h2 h3 h4; exact ⟨h1, h2, h3, h4⟩
  unfold binV at h
  split at h
  all_goals try (split at h)
  all_goals try (cases h; done)
  all_goals (simp only [Option.some.injEq] at h)
  all_goals (refine fin h ?_ rfl (by simp) (by simp))
  all_goals first
    | (simp [binOp, Op.intArith, Op.intBits, Op.intCmp, Op.intDiv, Op.shift, Op.stringOp, string_toList, *]; done)
    | (simp only [binOp, Op.intCmp, int_beq, int_bne]; simp [*]; done)
    | (simp only [binOp, Op.stringOp, string_toList, bytes_beq, bytes_append, bytes_size]; simp; done)
    | (rename_i hle; simp only [binOp, Op.stringOp, string_toList, bytes_beq, bytes_append, bytes_size]; rw [if_neg (by simp [IntKind.max, IntKind.bits]; omega)]; rfl)
    | skip


theorem binT_run {P : Program} {w : World} {op : BinOp} {t : TypeId} {x y : Operand} {u v r : Value} (h : binT P op t u v = some r) :
    (do eqGuard op t x y u v; binOp op t u v : Sem Value).run P w = .ok r w ∧ r.oneCell' = true := by
  unfold binT at h
  split at h
  · rename_i p q
    split at h
    · rename_i hu
      simp only [Option.some.injEq] at h
      subst h
      refine ⟨?_, rfl⟩
      rw [Sem.run_bind, eqGuard_run _ _ _ _ _ _ ⟨by simp, by simp⟩]
      simp [binOp, run_equal_bool w t p q hu]
    · rename_i hu
      simp only [Option.some.injEq] at h
      subst h
      refine ⟨?_, rfl⟩
      rw [Sem.run_bind, eqGuard_run _ _ _ _ _ _ ⟨by simp, by simp⟩]
      simp [binOp, run_equal_bool w t p q hu]
    · cases h
  · obtain ⟨h1, h2, h3, h4⟩ := binV_run (P := P) (w := w) (t := t) h
    refine ⟨?_, h2⟩
    rw [Sem.run_bind, eqGuard_run _ _ _ _ _ _ ⟨h3, h4⟩]
    exact h1

theorem binOp_sound (h : Rel E X s a w) (o : Oper) {op : BinOp} {t u : TypeId} {x y : Operand} (ho : o.op = .binOp op t x y u) {p q r : Value} (hx : plainC E s x = some (.v p)) (hy : plainC E s y = some (.v q)) (hr : binT E.P op t p q = some r) :
    Sound E X a w ((execOp a.eval o).run E.P w) (.d (.v r)) s := by
  obtain ⟨h1, h2⟩ := binT_run (w := w) (x := x) (y := y) hr
  refine Sound.same (val := r) h ?_ (RVe_d (.v r h2))
  simp only [execOp, ho, h.val hx, h.val hy]
  rw [Sem.run_bind, h1]
  rfl

theorem unOp_sound (h : Rel E X s a w) (o : Oper) {op : UnOp} {t : TypeId} {x : Operand} (ho : o.op = .unOp op t x) {p r : Value} (hx : plainC E s x = some (.v p)) (hr : unV op p = some r) :
    Sound E X a w ((execOp a.eval o).run E.P w) (.d (.v r)) s := by
  have h1 := h.val hx
  unfold unV at hr
  split at hr
  · simp only [Option.some.injEq] at hr
    subst hr
    exact Sound.same h (by simp [execOp, ho, h1, Op.unary]) (RVe_d (.v _ rfl))
  · simp only [Option.some.injEq] at hr
    subst hr
    exact Sound.same h (by simp [execOp, ho, h1, Op.unary, Op.intArith]) (RVe_d (.v _ rfl))
  · cases hr

theorem convert_int_sound (h : Rel E X s a w) (o : Oper) {src dst : TypeId} {x : Operand} (ho : o.op = .convert src dst x) {k0 k kk : IntKind} {n : Int} (h1 : E.P.underlying src = some (.int k0)) (h2 : E.P.underlying dst = some (.int k))
    (hx : plainC E s x = some (.v (.int kk n))) : Sound E X a w ((execOp a.eval o).run E.P w) (.d (.v (.int k (k.wrap n)))) s := by
  have h3 := h.val hx
  exact Sound.same h (by simp [execOp, ho, h3, convert, run_underlying h1, run_underlying h2, Conv.intToInt]) (RVe_d (.v _ rfl))

theorem convert_string_sound (h : Rel E X s a w) (o : Oper) {src dst : TypeId} {x : Operand} (ho : o.op = .convert src dst x) {b : ByteArray} (h1 : E.P.underlying src = some .string) (h2 : E.P.underlying dst = some .string)
    (hx : plainC E s x = some (.v (.string b))) : Sound E X a w ((execOp a.eval o).run E.P w) (.d (.v (.string b))) s := by
  have h3 := h.val hx
  exact Sound.same h (by simp [execOp, ho, h3, convert, run_underlying h1, run_underlying h2]) (RVe_d (.v _ rfl))

theorem structField_run {P : Program} {t u : TypeId} {i off : Nat} (h : structField P t i = some (off, u)) : ∃ fs f, P.underlying t = some (.struct fs) ∧ fs[i]? = some f ∧ f.offset = off ∧ f.type = u := by
  unfold structField at h
  split at h
  · rename_i fs hu
    simp only [Option.map_eq_some_iff, Prod.mk.injEq] at h
    obtain ⟨f, hf, h1, h2⟩ := h
    exact ⟨fs, f, hu, hf, h1, h2⟩
  · cases h

theorem run_fieldAt {P : Program} {w : World} {t u : TypeId} {i off n b o : Nat} (h : structField P t i = some (off, u)) (hn : tySize P u = some (n + 1)) :
    (Instr.fieldAt t (.pointer (some ⟨b, o, none⟩)) i).run P w = .ok (.pointer (some ⟨b, o + off, none⟩)) w := by
  obtain ⟨fs, f, h1, h2, h3, h4⟩ := structField_run h
  subst h3 h4
  simp [Instr.fieldAt, run_underlying h1, h2, Instr.sureAddr, Go.fieldPlace, run_sizeOf' hn, add_lit]

theorem fieldAddr_sound (h : Rel E X s a w) (o : Oper) {t : TypeId} {x : Operand} {i : Nat} (ho : o.op = .fieldAddr t x i) {v : AV} {off n : Nat} {u : TypeId} (hf : structField E.P t i = some (off, u)) (hn : tySize E.P u = some (n + 1))
    (hp : (match ev E s x with | .ptr o a => some (AV.ptr o (a + off), s) | .view cs => some (.view (cs.drop off), s) | .elt p k a => if (content s p).isOwn then some (.elt p k (a + off), s) else none | _ => none) = some (v, s1)) :
    Sound E X a w ((execOp a.eval o).run E.P w) v s1 := by
  obtain ⟨L, hr⟩ := h.operand x
  generalize hc : ev E s x = c at hp hr
  cases c with
  | ptr ob oo =>
    simp only [Option.some.injEq, Prod.mk.injEq] at hp
    obtain ⟨rfl, rfl⟩ := hp
    obtain ⟨b, hb, hv⟩ := hr
    exact Sound.same h (by simp [execOp, ho, hv, run_fieldAt hf hn]) ⟨b, hb, rfl⟩
  | view cs =>
    simp only [Option.some.injEq, Prod.mk.injEq] at hp
    obtain ⟨rfl, rfl⟩ := hp
    obtain ⟨b, oo, hv, hh⟩ := hr
    refine Sound.same h (by simp [execOp, ho, hv, run_fieldAt hf hn]) ⟨b, oo + off, rfl, fun j c hj => ?_⟩
    rw [List.getElem?_drop] at hj
    rw [Nat.add_assoc]
    exact hh (off + j) c hj
  | elt p k oo =>
    simp only at hp
    split at hp
    · rename_i hown
      simp only [Option.some.injEq, Prod.mk.injEq] at hp
      obtain ⟨rfl, rfl⟩ := hp
      obtain ⟨xs, l, hxs⟩ : ∃ xs l, content s p = .own xs l := by
        generalize content s p = c at hown
        cases c <;> first | exact ⟨_, _, rfl⟩ | cases hown
      obtain ⟨b, o0, n', cap, sz, g1, g2, hv⟩ := hr.2 xs l hxs
      refine Sound.same h (by simp [execOp, ho, hv, run_fieldAt hf hn]; rfl) ⟨hr.1, fun ys l' hys => ?_⟩
      rw [hxs] at hys
      cases hys
      exact ⟨b, o0, n', cap, sz, g1, g2, by rw [Nat.add_assoc]⟩
    · cases hp
  | _ => cases hp

theorem run_part {P : Program} {w : World} {I : Nat → Nat → Prop} {t : TypeId} {cs : List D} {vs : Array Value} {off : Nat} {d : D} (hp : partOf P t cs off = some d) (hr : Rep w I (.agg cs) (.agg vs)) :
    ∃ v, (part t vs off).run P w = .ok v w ∧ Rep w I d v := by
  cases hr with
  | agg _ _ hn hh =>
    unfold partOf at hp
    split at hp
    · rename_i n hg hs
      split at hp
      · rename_i hle
        simp only [Option.some.injEq] at hp
        subst hp
        refine ⟨.agg (vs.extract off (off + n)), by simp [part, run_isAgg hg, run_sizeOf' hs], .agg _ _ (by simp; omega) (fun j c hj => ?_)⟩
        rw [List.getElem?_take] at hj
        split at hj
        · rename_i hjn
          rw [List.getElem?_drop] at hj
          have hlt : off + j < vs.size := by rw [hn]; exact (List.getElem?_eq_some_iff.1 hj).1
          have := hh (off + j) c hj
          have e : (vs.extract off (off + n)).getD j undef = vs.getD (off + j) undef := by
            have : j < min (off + n) vs.size - off := by omega
            simp [Array.getD_eq_getD_getElem?, hlt, this]
          rw [e]; exact this
        · cases hj
      · cases hp
    · rename_i hg
      have hlt : off < vs.size := by rw [hn]; exact (List.getElem?_eq_some_iff.1 hp).1
      have := hh off d hp
      refine ⟨vs[off], by simp [part, run_isAgg hg, hlt], ?_⟩
      simpa [Array.getD, hlt] using this
    · cases hp

theorem rep_agg {w : World} {I : Nat → Nat → Prop} {cs : List D} {v : Value} (h : Rep w I (.agg cs) v) : ∃ vs, v = .agg vs := by cases h with | agg _ vs _ _ => exact ⟨vs, rfl⟩

theorem field_sound (h : Rel E X s a w) (o : Oper) {t : TypeId} {x : Operand} {i : Nat} (ho : o.op = .field t x i) {cs : List D} {off : Nat} {u : TypeId} {y : D} (hx : plainC E s x = some (.agg cs)) (hf : structField E.P t i = some (off, u)) (hp : partOf E.P u cs off = some y) :
    Sound E X a w ((execOp a.eval o).run E.P w) (.d y) s := by
  have hr := ev_rel h hx
  obtain ⟨vs, hv⟩ := rep_agg hr
  rw [hv] at hr
  obtain ⟨fs, f, h1, h2, h3, h4⟩ := structField_run hf
  subst h3 h4
  obtain ⟨v, hrun, hrep⟩ := run_part hp hr
  exact Sound.same h (by simp [execOp, ho, hv, Instr.field, run_underlying h1, h2, asAgg, hrun]) (RVe_d hrep)

theorem idxOf_val (h : Rel E X s a w) {x : Operand} {n : Int} (hx : idxOf (ev E s x) = some n) : ∃ k, a.eval x = .int k n := by
  generalize hc : ev E s x = c at hx
  cases c with
  | d y =>
    cases y with
    | v u =>
      cases u <;> simp [idxOf] at hx
      subst hx
      exact ⟨_, h.evv hc⟩
    | _ => simp [idxOf] at hx
  | _ => simp [idxOf] at hx

theorem run_indexAt_slice {P : Program} {w : World} {t e : TypeId} {b o len cap sz : Nat} {k : IntKind} {n : Int} (ht : P.underlying t = some (.slice e)) (hs : tySize P e = some sz) (h0 : 0 ≤ n) (h1 : n < len) :
    (Instr.indexAt t (.slice (some ⟨b, o, none⟩) len cap) (.int k n)).run P w = .ok (.pointer (some ⟨b, o + n.toNat * sz, none⟩)) w := by
  simp [Instr.indexAt, asIntOf, run_underlying ht, run_sizeOf' hs, h0, h1, add_lit]

theorem run_indexAt_array {P : Program} {w : World} {t e : TypeId} {b o len sz : Nat} {k : IntKind} {n : Int} (ht : P.underlying t = some (.array len e)) (hs : tySize P e = some sz) (h0 : 0 ≤ n) (h1 : n < len) :
    (Instr.indexAt t (.pointer (some ⟨b, o, none⟩)) (.int k n)).run P w = .ok (.pointer (some ⟨b, o + n.toNat * sz, none⟩)) w := by
  simp [Instr.indexAt, asIntOf, run_underlying ht, run_sizeOf' hs, h0, h1, add_lit, Instr.sureAddr]


theorem indexAddr_sound (h : Rel E X s a w) (o : Oper) {t : TypeId} {x i : Operand} (ho : o.op = .indexAddr t x i) {n : Int} {v : AV} (hi : idxOf (ev E s i) = some n) (hp : indexAddrOp E t (ev E s x) n s = some v) :
    Sound E X a w ((execOp a.eval o).run E.P w) v s := by
  obtain ⟨k, hk⟩ := idxOf_val h hi
  obtain ⟨L, hr⟩ := h.operand x
  unfold indexAddrOp at hp
  generalize hc : ev E s x = c at hp hr
  cases ht : E.P.underlying t with
  | none => simp [ht] at hp
  | some td =>
    cases td with
    | slice e =>
      cases c with
      | loc p =>
        simp only [ht] at hp
        cases hct : content s p with
        | own xs l =>
          cases hs : tySize E.P e with
          | none => simp [hct, hs] at hp
          | some sz =>
            simp only [hct, hs] at hp
            split at hp
            · rename_i h0
              cases hy : xs[n.toNat]? with
              | none => simp [hy] at hp
              | some y =>
                simp only [hy] at hp
                split at hp
                · rename_i hysz
                  simp only [Option.some.injEq] at hp
                  subst hp
                  obtain ⟨val, hval, hown⟩ := h.place hct (by simp) rfl (by simp) (by simp)
                  have hv := hr.2 (by rw [hct]; rfl)
                  rw [hval] at hv
                  cases hv
                  obtain ⟨b, o0, cap, e1, e2, e3⟩ := OwnOk.elem hown hy
                  have hlt : n.toNat < xs.length := (List.getElem?_eq_some_iff.1 hy).1
                  have hnl : n < (xs.length : Int) := by omega
                  refine Sound.same (val := .pointer (some ⟨b, o0 + n.toNat * sz, none⟩)) h (by simp [execOp, ho, hk, e1, run_indexAt_slice ht hs h0 hnl]) ⟨hr.1, fun ys l' hys => ?_⟩
                  rw [hct] at hys
                  cases hys
                  exact ⟨b, o0, _, cap, sz, by rw [hval, e1], fun z hz => by rw [e2 z hz, hysz], by simp⟩
                · cases hp
            · cases hp
        | _ => simp [ht, hct] at hp
      | d y0 =>
        cases y0 with
        | list xs =>
          simp only [ht] at hp
          cases hs : tySize E.P e with
          | none => simp [hs] at hp
          | some sz =>
            simp only [hs] at hp
            split at hp
            · rename_i h0
              cases hy : xs[n.toNat]? with
              | none => simp [hy] at hp
              | some y =>
                simp only [hy] at hp
                split at hp
                · rename_i hysz
                  simp only [Option.some.injEq] at hp
                  subst hp
                  have hr' : Rep w X.imm (.list xs) (a.eval x) := hr
                  have hlt : n.toNat < xs.length := (List.getElem?_eq_some_iff.1 hy).1
                  generalize hev : a.eval x = u at hr'
                  cases hr' with
                  | empty a0 c0 => simp at hy
                  | list _ b off cap sz' V hs' hc' hh hrr =>
                    have hsz : sz' = sz := by rw [← hysz, hs' y (List.mem_of_getElem? hy)]
                    subst hsz
                    have hnl : n < (xs.length : Int) := by omega
                    refine Sound.same h (by simp [execOp, ho, hk, hev, run_indexAt_slice ht hs h0 hnl]) ⟨b, off + n.toNat * sz', rfl, fun j c hj => ?_⟩
                    obtain ⟨g1, g2⟩ := hh n.toNat y hy j c hj
                    exact ⟨V n.toNat j, g1, g2, hrr n.toNat y hy j c hj⟩
                · cases hp
            · cases hp
        | _ => simp [ht] at hp
      | _ => simp [ht] at hp
    | array m e =>
      cases c with
      | ptr ob oo =>
        simp only [ht] at hp
        cases hs : tySize E.P e with
        | none => simp [hs] at hp
        | some sz =>
          simp only [hs] at hp
          split at hp
          · rename_i hcond
            simp only [Option.some.injEq] at hp
            subst hp
            obtain ⟨b, hb, hv⟩ := hr
            exact Sound.same h (by simp [execOp, ho, hk, hv, run_indexAt_array ht hs hcond.1 hcond.2.1]) ⟨b, hb, rfl⟩
          · cases hp
      | view cs =>
        simp only [ht] at hp
        cases hs : tySize E.P e with
        | none => simp [hs] at hp
        | some sz =>
          simp only [hs] at hp
          split at hp
          · rename_i hcond
            simp only [Option.some.injEq] at hp
            subst hp
            obtain ⟨b, oo, hv, hh⟩ := hr
            refine Sound.same h (by simp [execOp, ho, hk, hv, run_indexAt_array ht hs hcond.1 hcond.2.1]) ⟨b, oo + n.toNat * sz, rfl, fun j c hj => ?_⟩
            rw [List.getElem?_drop] at hj
            rw [Nat.add_assoc]
            exact hh (n.toNat * sz + j) c hj
          · cases hp
      | _ => simp [ht] at hp
    | _ => simp [ht] at hp

theorem index_sound (h : Rel E X s a w) (o : Oper) {t : TypeId} {x i : Operand} (ho : o.op = .index t x i) {n : Int} {y z : D} (hi : idxOf (ev E s i) = some n) (hx : plainC E s x = some y) (hp : indexOp E t y n = some z) :
    Sound E X a w ((execOp a.eval o).run E.P w) (.d z) s := by
  obtain ⟨k, hk⟩ := idxOf_val h hi
  have hr := ev_rel h hx
  unfold indexOp at hp
  split at hp
  · rename_i l ht
    have hv := rep_value hr
    split at hp
    · rename_i h0
      cases hb : l[n.toNat]? with
      | none => simp [hb] at hp
      | some b =>
        simp only [hb, Option.some.injEq] at hp
        subst hp
        have e : (ByteArray.mk ⟨l⟩)[n.toNat]? = some b := by
          have hlt : n.toNat < (ByteArray.mk ⟨l⟩).size := (List.getElem?_eq_some_iff.1 hb).1
          rw [Go.ByteArray.getElem?_lt' _ _ hlt]
          obtain ⟨h1, h2⟩ := List.getElem?_eq_some_iff.1 hb
          exact congrArg some h2
        exact Sound.same h (by simp [execOp, ho, hk, hv, Instr.index, asIntOf, run_underlying ht, h0, e]) (RVe_d (.v _ rfl))
    · cases hp
  · rename_i m e cs ht
    cases hs : tySize E.P e with
    | none => simp [hs] at hp
    | some sz =>
      simp only [hs] at hp
      split at hp
      · rename_i hc
        obtain ⟨vs, hv⟩ := rep_agg hr
        rw [hv] at hr
        obtain ⟨v, hrun, hrep⟩ := run_part hp hr
        exact Sound.same h (by simp [execOp, ho, hk, hv, Instr.index, asIntOf, run_underlying ht, hc, run_sizeOf' hs, hrun]) (RVe_d hrep)
      · cases hp
  · cases hp

theorem extract_sound (h : Rel E X s a w) (o : Oper) {t i : Nat} (ho : o.op = .extract (.tmp t) i) {vs : List AV} {v : AV} (hx : get s.env t = .tup vs) (hi : vs[i]? = some v) (hv : (∃ x, v = .d x) ∨ ∃ ob oo, v = .ptr ob oo) :
    Sound E X a w ((execOp a.eval o).run E.P w) v s := by
  have ht := h.env t
  rw [hx] at ht
  obtain ⟨us, hu, hn, hh⟩ := ht
  have hlt : i < us.size := by rw [hn]; exact (List.getElem?_eq_some_iff.1 hi).1
  obtain ⟨_, hr⟩ := hh i v hi
  have e : us.getD i undef = us[i] := by simp [Array.getD, hlt]
  rw [e] at hr
  refine Sound.same (val := us[i]) h ?_ ?_
  · have : a.eval (.tmp t) = .tuple us := hu
    simp [execOp, ho, this, Instr.extract, hlt]
  · rcases hv with ⟨x, rfl⟩ | ⟨ob, oo, rfl⟩
    · exact hr
    · exact hr

theorem capsOf_rel (h : Rel E X s a w) : ∀ {l : List Operand} {ps : List (Nat × Nat)}, capsOf E s l = some ps → ps.length = l.length ∧ ∀ (j : Nat) o c, ps[j]? = some (o, c) → ∃ b x, X.mu[o]? = some b ∧ l[j]? = some x ∧ a.eval x = .pointer (some ⟨b, c, none⟩)
  | [], ps, hp => by simp [capsOf] at hp; subst hp; exact ⟨rfl, fun j o c hj => by simp at hj⟩
  | x :: l, ps, hp => by
    simp only [capsOf] at hp
    generalize hx : ev E s x = v at hp
    cases v with
    | ptr o c =>
      cases h2 : capsOf E s l with
      | none => simp [h2] at hp
      | some ps' =>
        simp only [h2, Option.some.injEq] at hp
        subst hp
        obtain ⟨h3, h4⟩ := capsOf_rel h h2
        refine ⟨by simp [h3], fun j o' c' hj => ?_⟩
        cases j with
        | zero =>
          simp at hj
          obtain ⟨rfl, rfl⟩ := hj
          obtain ⟨b, hb, hv⟩ := h.ptr hx
          exact ⟨b, x, hb, rfl, hv⟩
        | succ j => simpa using h4 j o' c' (by simpa using hj)
    | _ => simp at hp

theorem makeFunc_sound (h : Rel E X s a w) (o : Oper) {f : FuncId} {first caps : Array Operand} (ho : o.op = .makeFunc (.func f) first caps) (hf : first.size = 0) {ps : List (Nat × Nat)} (hp : capsOf E s caps.toList = some ps) :
    Sound E X a w ((execOp a.eval o).run E.P w) (.fn f ps) s := by
  obtain ⟨h1, h2⟩ := capsOf_rel h hp
  have hf' : first = #[] := Array.eq_empty_of_size_eq_zero hf
  refine Sound.same (val := .func (.func f) #[] (caps.map a.eval)) h (by simp [execOp, ho, hf', Instr.makeFunc]) ⟨caps.map a.eval, rfl, by simp [h1], fun j ob c hj => ?_⟩
  obtain ⟨b, x, hb, hx, hv⟩ := h2 j ob c hj
  have hx' : caps[j]? = some x := by simpa using hx
  exact ⟨b, hb, by simp [hx', hv]⟩

end Go.Ab
