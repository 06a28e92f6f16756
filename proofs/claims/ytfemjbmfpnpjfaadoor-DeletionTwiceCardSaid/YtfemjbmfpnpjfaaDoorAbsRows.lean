/- Lengths, slices, new rows, appends. -/
import Derived.Test.YtfemjbmfpnpjfaaDoorAbsSimple
namespace Go.Ab

variable {E : Env0} {X : Cx} {s s1 : St} {a : Act} {w : World}

theorem run_call_builtin {P : Program} {o : Oper} {b : Builtin} {args : Array Operand} {ts : Array TypeId} (ho : o.op = .call { callee := .builtin b, args := args, argTypes := ts }) (a : Act) (w : World) :
    ∃ cs, (execOp a.eval o).run P w = (builtin b ts o.type cs (args.map a.eval)).run P w := by
  apply Exists.intro
  simp only [execOp, ho, resolve, invoke, Sem.run_bind, Sem.run_pure, Result.andThen_ok]
  rfl

theorem len_sound (h : Rel E X s a w) (o : Oper) {t : TypeId} {x : Operand} {args : Array Operand} {ts : Array TypeId} (ho : o.op = .call { callee := .builtin .len, args := args, argTypes := ts }) (ha : args.toList = [x]) (hts : ts.toList = [t]) {n : Nat} (hp : lenA E t (ev E s x) s = some n) :
    Sound E X a w ((execOp a.eval o).run E.P w) (.d (.v (.int .i64 n))) s := by
  obtain rfl : args = #[x] := by apply Array.ext'; simpa using ha
  obtain rfl : ts = #[t] := by apply Array.ext'; simpa using hts
  refine Sound.same (val := .int .i64 n) h ?_ (RVe_d (.v _ rfl))
  obtain ⟨cs, hcs⟩ := run_call_builtin (P := E.P) ho a w
  rw [hcs]
  obtain ⟨L, hr⟩ := h.operand x
  unfold lenA at hp
  split at hp
  · rename_i l ht hx
    simp only [Option.some.injEq] at hp
    subst hp
    have hv := h.evv hx
    simp [builtin, Builtin.len_, run_underlying ht, hv, goInt, bytes_size]
  · rename_i e xs ht hx
    simp only [Option.some.injEq] at hp
    subst hp
    have hr' := h.evd hx
    have : ∃ a0 c0, a.eval x = .slice a0 xs.length c0 := by
      generalize a.eval x = u at hr'
      cases hr' with
      | empty a0 c0 => exact ⟨a0, c0, rfl⟩
      | list _ b off cap sz V hs hc hh hrr => exact ⟨_, cap, rfl⟩
    obtain ⟨a0, c0, hv⟩ := this
    simp [builtin, Builtin.len_, run_underlying ht, hv, goInt]
  · rename_i e p ht hx
    rw [hx] at hr
    cases hct : content s p with
    | own xs l =>
      simp only [hct, Option.some.injEq] at hp
      subst hp
      obtain ⟨val, hval, hown⟩ := h.place hct (by simp) rfl (by simp) (by simp)
      have hv := hr.2 (by rw [hct]; rfl)
      rw [hval] at hv
      cases hv
      have : ∃ a0 c0, a.eval x = .slice a0 xs.length c0 := by
        rcases hown with ⟨rfl, a0, e0⟩ | ⟨_, h2, _⟩ | ⟨b, cap, cur, e1, sz, e0, _⟩
        · exact ⟨a0, 0, e0⟩
        · generalize a.eval x = u at h2
          cases h2 with
          | empty a0 c0 => exact ⟨a0, c0, rfl⟩
          | list _ b off cap sz V hs hc hh hrr => exact ⟨_, cap, rfl⟩
        · exact ⟨_, cap, e0⟩
      obtain ⟨a0, c0, hv⟩ := this
      simp [builtin, Builtin.len_, run_underlying ht, hv, goInt]
    | _ => simp [hct] at hp
  · cases hp

theorem max_sound (h : Rel E X s a w) (o : Oper) {x y : Operand} {args : Array Operand} {ts : Array TypeId} (ho : o.op = .call { callee := .builtin .max, args := args, argTypes := ts }) (ha : args.toList = [x, y]) {k k' : IntKind} {m n : Int} (hx : plainC E s x = some (.v (.int k m))) (hy : plainC E s y = some (.v (.int k' n))) :
    Sound E X a w ((execOp a.eval o).run E.P w) (.d (.v (.int k (if n > m then n else m)))) s := by
  obtain rfl : args = #[x, y] := by apply Array.ext'; simpa using ha
  refine Sound.same h ?_ (RVe_d (.v _ rfl))
  obtain ⟨cs, hcs⟩ := run_call_builtin (P := E.P) ho a w
  rw [hcs]
  simp [builtin, Builtin.max_, Builtin.max2, h.val hx, h.val hy]

theorem min_sound (h : Rel E X s a w) (o : Oper) {x y : Operand} {args : Array Operand} {ts : Array TypeId} (ho : o.op = .call { callee := .builtin .min, args := args, argTypes := ts }) (ha : args.toList = [x, y]) {k k' : IntKind} {m n : Int} (hx : plainC E s x = some (.v (.int k m))) (hy : plainC E s y = some (.v (.int k' n))) :
    Sound E X a w ((execOp a.eval o).run E.P w) (.d (.v (.int k (if n < m then n else m)))) s := by
  obtain rfl : args = #[x, y] := by apply Array.ext'; simpa using ha
  refine Sound.same h ?_ (RVe_d (.v _ rfl))
  obtain ⟨cs, hcs⟩ := run_call_builtin (P := E.P) ho a w
  rw [hcs]
  simp [builtin, Builtin.min_, Builtin.min2, h.val hx, h.val hy]

/-! ### Slices of slices and of strings -/

theorem bound_run {P : Program} {w : World} {k : IntKind} {n : Int} {y : Nat} {c : BoundsCode} (h0 : 0 ≤ n) (h1 : n ≤ y) : (Instr.sliceBound (.int k n) y c).run P w = .ok n.toNat w := by
  simp [Instr.sliceBound, asIntOf, h0, h1]

theorem sliceBounds_run (h : Rel E X s a w) {b : Bool} {len cap : Nat} {lo hi : Option Operand} {l m : Nat} (hp : sliceBoundsA len (lo.map (ev E s)) (hi.map (ev E s)) = some (l, m)) (hc : len ≤ cap) :
    (Instr.sliceBounds b len cap (lo.map a.eval) (hi.map a.eval) none).run E.P w = .ok (l, m, cap) w ∧ l ≤ m ∧ m ≤ len := by
  have hhi : ∀ q : Operand, hi = some q → ∀ n, idxOf (ev E s q) = some n → ∃ k, a.eval q = .int k n := fun q _ n hn => idxOf_val h hn
  unfold sliceBoundsA at hp
  cases hi with
  | none =>
    simp only [Option.map_none] at hp ⊢
    cases lo with
    | none =>
      simp only [Option.map_none, Option.some.injEq, Prod.mk.injEq] at hp ⊢
      obtain ⟨rfl, rfl⟩ := hp
      exact ⟨by simp [Instr.sliceBounds], Nat.zero_le _, Nat.le_refl _⟩
    | some q =>
      simp only [Option.map_some] at hp ⊢
      cases hn : idxOf (ev E s q) with
      | none => simp [hn] at hp
      | some n =>
        simp only [hn] at hp
        split at hp
        · rename_i hcond
          simp only [Option.some.injEq, Prod.mk.injEq] at hp
          obtain ⟨rfl, rfl⟩ := hp
          obtain ⟨k, hk⟩ := idxOf_val h hn
          refine ⟨by simp [Instr.sliceBounds, hk, bound_run hcond.1 hcond.2], by omega, Nat.le_refl _⟩
        · cases hp
  | some r =>
    simp only [Option.map_some] at hp ⊢
    cases hm : idxOf (ev E s r) with
    | none => simp [hm] at hp
    | some m' =>
      simp only [hm] at hp
      split at hp
      · cases hp
      · rename_i h1 heq
        split at heq
        · rename_i hcm
          simp only [Option.some.injEq] at heq
          subst heq
          obtain ⟨k2, hk2⟩ := idxOf_val h hm
          have hb2 : ∀ c, (Instr.sliceBound (.int k2 m') cap c).run E.P w = .ok m'.toNat w := fun c => bound_run hcm.1 (by omega)
          cases lo with
          | none =>
            simp only [Option.map_none, Option.some.injEq, Prod.mk.injEq] at hp ⊢
            obtain ⟨rfl, rfl⟩ := hp
            exact ⟨by simp [Instr.sliceBounds, hk2, hb2], Nat.zero_le _, by omega⟩
          | some q =>
            simp only [Option.map_some] at hp ⊢
            cases hn : idxOf (ev E s q) with
            | none => simp [hn] at hp
            | some n =>
              simp only [hn] at hp
              split at hp
              · rename_i hcond
                simp only [Option.some.injEq, Prod.mk.injEq] at hp
                obtain ⟨rfl, rfl⟩ := hp
                obtain ⟨k, hk⟩ := idxOf_val h hn
                have hb3 : ∀ c, (Instr.sliceBound (.int k n) m'.toNat c).run E.P w = .ok n.toNat w := fun c => bound_run hcond.1 (by omega)
                exact ⟨by simp [Instr.sliceBounds, hk, hk2, hb2, hb3], by omega, by omega⟩
              · cases hp
        · cases heq

theorem rep_sub {w : World} {I : Nat → Nat → Prop} {xs : List D} {ad : Option Addr} {len cap : Nat} (hr : Rep w I (.list xs) (.slice ad len cap)) (l m sz : Nat) (hl : l ≤ m) (hm : m ≤ xs.length) (hsz : ∀ x ∈ xs, x.cells.length = sz) (cap' : Nat) (hcap : m - l ≤ cap') (ad' : Option Addr)
    (had : ad' = (if cap = l then ad else ad.map (·.add (l * sz)))) : Rep w I (.list ((xs.take m).drop l)) (.slice ad' (m - l) cap') := by
  generalize hv : Value.slice ad len cap = v at hr
  cases hr with
  | empty a0 c0 =>
    simp at hm
    have : m = 0 := by omega
    subst this
    simp
    exact .empty _ _
  | list _ b off cap0 sz0 V hs hc hh hrr =>
    cases hv
    by_cases hlm : l = m
    · subst hlm
      have : (xs.take l).drop l = [] := by simp
      rw [this, Nat.sub_self]
      exact .empty _ _
    · have hne : cap ≠ l := by omega
      rw [if_neg hne] at had
      subst had
      have hx0 : 0 < xs.length := by omega
      have hsz' : sz0 = sz := by rw [← hs xs[0] (List.getElem_mem _), hsz xs[0] (List.getElem_mem _)]
      subst hsz'
      have hlen : ((xs.take m).drop l).length = m - l := by simp; omega
      have hget : ∀ (i : Nat) x, ((xs.take m).drop l)[i]? = some x → xs[l + i]? = some x := fun i x hx => by
        rw [List.getElem?_drop, List.getElem?_take] at hx
        split at hx
        · exact hx
        · cases hx
      have := Rep.list (w := w) (I := I) ((xs.take m).drop l) b (off + l * sz0) cap' sz0 (fun i j => V (l + i) j) (fun x hx => hs x (List.mem_of_mem_take (List.mem_of_mem_drop hx))) (by omega)
        (fun i x hx j c hj => by
          have := hh (l + i) x (hget i x hx) j c hj
          rw [Nat.add_mul, ← Nat.add_assoc] at this
          exact this)
        (fun i x hx j c hj => hrr (l + i) x (hget i x hx) j c hj)
      rw [hlen] at this
      simpa [add_lit] using this


theorem elemsOk_get {P : Program} {e : TypeId} {xs : List D} (h : elemsOk P e xs = true) : ∃ g n, tyAgg P e = some g ∧ tySize P e = some n ∧ ∀ x ∈ xs, x.cells.length = n ∧ x.isAgg = g ∧ 0 < n ∧ ∀ c ∈ x.cells, c.isAgg = false := by
  unfold elemsOk at h
  split at h
  · rename_i g n h1 h2
    refine ⟨g, n, h1, h2, fun x hx => ?_⟩
    have := List.all_eq_true.1 h x hx
    simp only [elemOk, Bool.and_eq_true, beq_iff_eq, decide_eq_true_eq, List.all_eq_true, Bool.not_eq_true'] at this
    exact ⟨this.1.1.1, this.1.1.2.symm, this.1.2, fun c hc => this.2 c hc⟩
  · cases h

theorem slice_sound (h : Rel E X s a w) (o : Oper) {t : TypeId} {x : Operand} {lo hi mx : Option Operand} (ho : o.op = .slice t x lo hi mx) {v : AV} (hp : sliceOp E t x lo hi mx s = some v) :
    Sound E X a w ((execOp a.eval o).run E.P w) v s := by
  unfold sliceOp at hp
  split at hp
  · rename_i l hx
    have hv := h.val hx
    split at hp
    · rename_i hb ht
      simp only [Option.some.injEq] at hp
      subst hp
      obtain ⟨h1, h2, h3⟩ := sliceBounds_run (b := false) h hb (Nat.le_refl _)
      rename_i A B
      have e : (ByteArray.mk ⟨l⟩).extract A B = ByteArray.mk ⟨(l.take B).drop A⟩ := by
        apply ByteArray.ext
        apply Array.ext'
        simp [List.extract_eq_take_drop, List.drop_take]
      refine Sound.same (val := .string ⟨⟨(l.take B).drop A⟩⟩) h ?_ (RVe_d (.v _ rfl))
      simp only [execOp, ho, Instr.sliceAt, Instr.slice, Sem.run_bind, run_underlying ht, Result.andThen_ok, hv]
      simp [h1, bytes_size, e]
    · cases hp
  · rename_i xs hx
    have hr := ev_rel h hx
    have hsl : ∃ ad cap, a.eval x = .slice ad xs.length cap ∧ xs.length ≤ cap := by
      generalize a.eval x = u at hr
      cases hr with
      | empty a0 c0 => exact ⟨a0, c0, rfl, Nat.zero_le _⟩
      | list _ b off cap sz V hs hc hh hrr => exact ⟨_, cap, rfl, hc⟩
    obtain ⟨ad, cap, hv, hcap⟩ := hsl
    rw [hv] at hr
    split at hp
    · rename_i e A B hte hb
      split at hp
      · rename_i hel
        obtain ⟨g, n, hg, hn, hall⟩ := elemsOk_get hel
        have ht : E.P.underlying t = some (.slice e) := by
          unfold tyElem at hte
          split at hte
          · rename_i e' hu; cases hte; exact hu
          · cases hte
        split at hp
        · simp only [Option.some.injEq] at hp
          subst hp
          obtain ⟨h1, h2, h3⟩ := sliceBounds_run (b := true) h hb hcap
          refine Sound.same (val := .slice (if cap = A then ad else ad.map (·.add (A * n))) (B - A) (cap - A)) h ?_ (RVe_d (rep_sub hr A B n h2 h3 (fun x hx => (hall x hx).1) _ (by omega) _ rfl))
          simp only [execOp, ho, Instr.sliceAt, Instr.slice, Sem.run_bind, run_underlying ht, Result.andThen_ok, hv]
          simp [h1, run_sizeOf' hn]
        · cases hp
      · cases hp
    · cases hp
  · cases hp

end Go.Ab
