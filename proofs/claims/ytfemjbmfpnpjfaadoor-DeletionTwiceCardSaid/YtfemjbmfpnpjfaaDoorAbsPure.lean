/- Operations that do not look at the world; those that only let it grow. -/
import Derived.Test.YtfemjbmfpnpjfaaDoorAbsCallA
namespace Go.Ab

variable {E : Env0} {X : Cx} {s s1 : St} {a : Act} {w : World} {P : Program}

def Never {α : Type} (P : Program) (m : Sem α) : Prop := ∀ w x w', m.run P w ≠ .ok x w'
/-- The world is not looked at and stays. -/
def Blind {α : Type} (P : Program) (m : Sem α) : Prop := (∃ x, ∀ w, m.run P w = .ok x w) ∨ Never P m

theorem Blind.pure {α : Type} (x : α) : Blind P (Pure.pure x : Sem α) := .inl ⟨x, fun _ => rfl⟩
theorem Never.halt {α : Type} (h : Halt) : Never P (.halt h : Sem α) := fun w x w' e => by simp [Sem.run] at e
theorem Never.bind {α β : Type} {m : Sem α} {f : α → Sem β} (h : ∀ x, Never P (f x)) : Never P (m >>= f) := by
  intro w y w' e
  rw [Sem.run_bind] at e
  cases hm : m.run P w with
  | ok x w1 => rw [hm] at e; exact h x w1 y w' e
  | halt x w1 => rw [hm] at e; cases e
theorem Never.bindL {α β : Type} {m : Sem α} {f : α → Sem β} (h : Never P m) : Never P (m >>= f) := by
  intro w y w' e
  rw [Sem.run_bind] at e
  cases hm : m.run P w with
  | ok x w1 => exact h w x w1 hm
  | halt x w1 => rw [hm] at e; cases e
theorem Blind.stuck {α : Type} (s : String) : Blind P (stuck s : Sem α) := .inr (Never.halt _)
theorem Blind.unsupported {α : Type} (u : Unsupported) : Blind P (unsupported u : Sem α) := .inr (Never.halt _)
theorem Never.runtimePanic {α : Type} (e : RuntimeError) : Never P (runtimePanic e : Sem α) := by
  refine Never.bind (fun p => ?_)
  cases e with
  | typeAssertion i c a m => exact Never.bind fun _ => Never.bind fun _ => Never.halt _
  | panicNil => exact Never.bind fun _ => Never.bind fun _ => Never.halt _
  | _ => exact Never.halt _
theorem Blind.runtimePanic {α : Type} (e : RuntimeError) : Blind P (runtimePanic e : Sem α) := .inr (Never.runtimePanic e)
theorem Blind.boundsPanic {α : Type} (k : IntKind) (x y : Int) (c : BoundsCode) : Blind P (boundsPanic k x y c : Sem α) := by
  refine .inr ?_
  unfold Go.boundsPanic
  dsimp only
  split
  · exact Never.bind fun _ => Never.runtimePanic _
  · exact Never.bind fun _ => Never.runtimePanic _
theorem Blind.bind {α β : Type} {m : Sem α} {f : α → Sem β} (hm : Blind P m) (hf : ∀ x, Blind P (f x)) : Blind P (m >>= f) := by
  rcases hm with ⟨x, hx⟩ | hm
  · rcases hf x with ⟨y, hy⟩ | hy
    · exact .inl ⟨y, fun w => by rw [Sem.run_bind, hx w]; exact hy w⟩
    · refine .inr (fun w y w' e => ?_)
      rw [Sem.run_bind, hx w] at e
      exact hy w y w' e
  · exact .inr hm.bindL
theorem Blind.program : Blind P program := .inl ⟨P, fun _ => rfl⟩
theorem Blind.typeInfo (t : TypeId) : Blind P (typeInfo t) := by
  refine Blind.bind Blind.program (fun p => ?_)
  split
  · exact Blind.pure _
  · exact Blind.stuck _
theorem Blind.underlying (t : TypeId) : Blind P (underlying t) := by
  refine Blind.bind Blind.program (fun p => ?_)
  split
  · exact Blind.pure _
  · exact Blind.stuck _
theorem Blind.sizeOf (t : TypeId) : Blind P (sizeOf t) := Blind.bind (Blind.typeInfo t) fun _ => Blind.pure _
theorem Blind.isAgg (t : TypeId) : Blind P (isAgg t) := by
  refine Blind.bind (Blind.underlying t) (fun d => ?_)
  split <;> exact Blind.pure _
theorem Blind.part (t : TypeId) (cs : Array Value) (off : Nat) : Blind P (part t cs off) := by
  refine Blind.bind (Blind.isAgg t) (fun g => ?_)
  split
  · exact Blind.bind (Blind.sizeOf t) fun _ => Blind.pure _
  · split
    · exact Blind.pure _
    · exact Blind.stuck _
theorem Blind.asBool (v : Value) : Blind P (asBool v) := by
  unfold Go.asBool
  split
  · exact Blind.pure _
  · exact Blind.stuck _
theorem Blind.asAgg (v : Value) : Blind P (asAgg v) := by
  unfold Go.asAgg
  split
  · exact Blind.pure _
  · exact Blind.stuck _
theorem Blind.asAddr (v : Value) : Blind P (asAddr v) := by
  unfold Go.asAddr
  split
  · exact Blind.pure _
  · exact Blind.runtimePanic _
  · exact Blind.stuck _
theorem Blind.asIntOf (v : Value) : Blind P (asIntOf v) := by
  unfold Go.asIntOf
  split
  · exact Blind.pure _
  · exact Blind.unsupported _
  · exact Blind.stuck _
theorem Blind.sureAddr (v : Value) : Blind P (Instr.sureAddr v) := by
  unfold Instr.sureAddr
  split
  · exact Blind.pure _
  · exact Blind.stuck _
theorem Blind.of_run {α : Type} {m : Sem α} (x : α) (h : ∀ w, m.run P w = .ok x w) : Blind P m := .inl ⟨x, h⟩

theorem Blind.extract (t : Value) (i : Nat) : Blind P (Instr.extract t i) := by
  unfold Instr.extract
  split
  · split
    · exact Blind.pure _
    · exact Blind.stuck _
  · exact Blind.stuck _
theorem Blind.field (t : TypeId) (x : Value) (i : Nat) : Blind P (Instr.field t x i) := by
  refine Blind.bind (Blind.underlying t) (fun d => ?_)
  split
  · split
    · exact Blind.bind (Blind.asAgg x) fun _ => Blind.part _ _ _
    · exact Blind.stuck _
  · exact Blind.stuck _
theorem Blind.index (t : TypeId) (x i : Value) : Blind P (Instr.index t x i) := by
  refine Blind.bind (Blind.asIntOf i) (fun ki => Blind.bind (Blind.underlying t) (fun d => ?_))
  split
  · split
    · exact Blind.bind (Blind.sizeOf _) fun _ => Blind.part _ _ _
    · exact Blind.boundsPanic _ _ _ _
  · split
    · exact Blind.pure _
    · exact Blind.boundsPanic _ _ _ _
  · exact Blind.stuck _
theorem Blind.indexTail (t : TypeId) (k : IntKind) (i : Int) (base : Option Addr) (len : Nat) (elem : TypeId) (g : Bool → TypeDesc → Bool) : Blind P (do
    let d ← Go.underlying t
    match base with
    | some a =>
      if 0 ≤ i ∧ i < len then do
        let n ← Go.sizeOf elem
        Pure.pure (Value.pointer (some (a.add (i.toNat * n))))
      else if g (len ≤ 1) d = true then Go.unsupported (.noEntry "op/indexAddr.an index out of range at an array of length 0 or 1 (ledger 616)")
      else Go.boundsPanic k i len .index
    | none => Go.boundsPanic k i 0 .index) := by
  refine Blind.bind (Blind.underlying t) (fun d2 => ?_)
  split
  · split
    · exact Blind.bind (Blind.sizeOf _) fun _ => Blind.pure _
    · split
      · exact Blind.unsupported _
      · exact Blind.boundsPanic _ _ _ _
  · exact Blind.boundsPanic _ _ _ _
theorem Blind.indexAt (t : TypeId) (x i : Value) : Blind P (Instr.indexAt t x i) := by
  refine Blind.bind (Blind.asIntOf i) (fun ki => Blind.bind (Blind.underlying t) (fun d => ?_))
  dsimp only
  split
  · exact Blind.bind (Blind.sureAddr _) fun _ => Blind.bind (Blind.pure _) fun ⟨b, l, e⟩ => Blind.indexTail t ki.1 ki.2 b l e (fun c d => c && match d with | .array .. => true | _ => false)
  · exact Blind.bind (Blind.pure _) fun ⟨b, l, e⟩ => Blind.indexTail t ki.1 ki.2 b l e (fun c d => c && match d with | .array .. => true | _ => false)
  · exact Blind.bind (Blind.stuck _) fun ⟨b, l, e⟩ => Blind.indexTail t ki.1 ki.2 b l e (fun c d => c && match d with | .array .. => true | _ => false)
theorem Blind.sliceBound (x : Value) (y : Nat) (c : BoundsCode) : Blind P (Instr.sliceBound x y c) := by
  refine Blind.bind (Blind.asIntOf x) (fun ki => ?_)
  dsimp only
  split
  · exact Blind.pure _
  · exact Blind.boundsPanic _ _ _ _
theorem Blind.sliceBounds (b : Bool) (l c : Nat) (lo hi mx : Option Value) : Blind P (Instr.sliceBounds b l c lo hi mx) := by
  unfold Instr.sliceBounds
  cases mx <;> cases hi <;> cases lo <;> dsimp only <;>
    repeat (first
      | exact Blind.pure _
      | refine Blind.bind (Blind.sliceBound _ _ _) (fun _ => ?_)
      | refine Blind.bind (Blind.pure _) (fun _ => ?_)
      | refine Blind.bind (Blind.stuck _) (fun _ => ?_))
theorem Blind.slice (t : TypeId) (x : Value) (lo hi mx : Option Value) : Blind P (Instr.slice t x lo hi mx) := by
  unfold Instr.slice
  refine Blind.bind (Blind.underlying t) (fun d => ?_)
  split
  · split
    · exact Blind.bind (Blind.stuck _) fun _ => Blind.bind (Blind.sliceBounds _ _ _ _ _ _) fun _ => Blind.pure _
    · exact Blind.bind (Blind.sliceBounds _ _ _ _ _ _) fun _ => Blind.pure _
  · exact Blind.bind (Blind.sliceBounds _ _ _ _ _ _) fun _ => Blind.bind (Blind.sizeOf _) fun _ => Blind.pure _
  · refine Blind.bind (Blind.asAddr _) fun _ => Blind.bind (Blind.underlying _) fun d2 => ?_
    split
    · exact Blind.bind (Blind.sliceBounds _ _ _ _ _ _) fun _ => Blind.bind (Blind.sizeOf _) fun _ => Blind.pure _
    · exact Blind.stuck _
  · exact Blind.stuck _
theorem Blind.sliceAt (t : TypeId) (x : Value) (lo hi mx : Option Value) : Blind P (Instr.sliceAt t x lo hi mx) := by
  unfold Instr.sliceAt
  refine Blind.bind (Blind.underlying t) (fun d => ?_)
  split
  · exact Blind.bind (Blind.sureAddr _) fun _ => Blind.bind (Blind.sliceBounds _ _ _ _ _ _) fun _ => Blind.bind (Blind.sizeOf _) fun _ => Blind.pure _
  · exact Blind.slice _ _ _ _ _
theorem Blind.value {m : Sem Value} (h : Blind P m) : Blind P (do let v ← m; Pure.pure (Next.value v) : Sem Next) := Blind.bind h fun _ => Blind.pure _

theorem len_run (h : Rel E X s a w) (o : Oper) {t : TypeId} {x : Operand} {args : Array Operand} {ts : Array TypeId} (ho : o.op = .call { callee := .builtin .len, args := args, argTypes := ts }) (ha : args.toList = [x]) (hts : ts.toList = [t]) {n : Nat} (hp : lenA E t (ev E s x) s = some n) (w' : World) :
    (execOp a.eval o).run E.P w' = .ok (.value (.int .i64 n)) w' := by
  obtain rfl : args = #[x] := by apply Array.ext'; simpa using ha
  obtain rfl : ts = #[t] := by apply Array.ext'; simpa using hts
  obtain ⟨cs, hcs⟩ := run_call_builtin (P := E.P) ho a w'
  rw [hcs]
  obtain ⟨L, hr⟩ := h.operand x
  unfold lenA at hp
  split at hp
  · rename_i l ht hx
    simp only [Option.some.injEq] at hp
    subst hp
    have hv := h.evv hx
    simp [builtin, Builtin.len_, run_underlying ht, hv, goInt, bytes_size]
  · rename_i e xs ht hx
    simp only [Option.some.injEq] at hp
    subst hp
    have hr' := h.evd hx
    have : ∃ a0 c0, a.eval x = .slice a0 xs.length c0 := by
      generalize a.eval x = u at hr'
      cases hr' with
      | empty a0 c0 => exact ⟨a0, c0, rfl⟩
      | list _ b off cap sz V hs hc hh hrr => exact ⟨_, cap, rfl⟩
    obtain ⟨a0, c0, hv⟩ := this
    simp [builtin, Builtin.len_, run_underlying ht, hv, goInt]
  · rename_i e p ht hx
    rw [hx] at hr
    cases hct : content s p with
    | own xs l =>
      simp only [hct, Option.some.injEq] at hp
      subst hp
      obtain ⟨val, hval, hown⟩ := h.place hct (by simp) rfl (by simp) (by simp)
      have hv := hr.2 (by rw [hct]; rfl)
      rw [hval] at hv
      cases hv
      have : ∃ a0 c0, a.eval x = .slice a0 xs.length c0 := by
        rcases hown with ⟨rfl, a0, e0⟩ | ⟨_, h2, _⟩ | ⟨b, cap, cur, e1, sz, e0, _⟩
        · exact ⟨a0, 0, e0⟩
        · generalize a.eval x = u at h2
          cases h2 with
          | empty a0 c0 => exact ⟨a0, c0, rfl⟩
          | list _ b off cap sz V hs hc hh hrr => exact ⟨_, cap, rfl⟩
        · exact ⟨_, cap, e0⟩
      obtain ⟨a0, c0, hv⟩ := this
      simp [builtin, Builtin.len_, run_underlying ht, hv, goInt]
    | _ => simp [hct] at hp
  · cases hp

/-- Operations that do not look at the world. -/
def pureOp : Op → Bool
  | .move _ | .assign _ | .pick .. | .nilCheck _ | .binOp .. | .unOp .. | .convert .. | .slice .. | .fieldAddr .. | .field .. | .indexAddr .. | .index .. | .extract .. | .build .. => true
  | .call { callee := .builtin .len, .. } | .call { callee := .builtin .min, .. } | .call { callee := .builtin .max, .. } => true
  | _ => false

theorem pure_run (h : Rel E X s a w) (o : Oper) {fl : Flag} {q : Bool} {v : AV} (hp : stepOp E fl q o.op s = some (v, s1)) (hpu : pureOp o.op = true) :
    ∃ val, ∀ w', (execOp a.eval o).run E.P w' = .ok (.value val) w' := by
  obtain ⟨val, w1, X1, hr, _⟩ := stepOp_sound h o hp
  have fin : Blind E.P (execOp a.eval o) → ∃ val, ∀ w', (execOp a.eval o).run E.P w' = .ok (.value val) w' := by
    rintro (⟨x, hx⟩ | hn)
    · have := hx w
      rw [hr] at this
      cases this
      exact ⟨val, hx⟩
    · exact absurd hr (hn w _ w1)
  cases hop : o.op with
  | move x => exact ⟨a.eval x, fun w' => by simp [execOp, hop]⟩
  | assign x => exact ⟨a.eval x, fun w' => by simp [execOp, hop]⟩
  | pick c x y => exact fin (by simp only [execOp, hop]; exact Blind.bind (Blind.asBool _) fun _ => Blind.pure _)
  | nilCheck x =>
    refine fin ?_
    simp only [execOp, hop]
    obtain ⟨L, hv⟩ := h.operand x
    rw [hop] at hp
    simp only [stepOp] at hp
    have : (∃ ad, a.eval x = .pointer (some ad)) ∨ ∃ f vs, a.eval x = .func (.func f) #[] vs := by
      generalize ev E s x = c at hv hp
      cases c with
      | ptr o off => obtain ⟨b, _, e⟩ := hv; exact .inl ⟨_, e⟩
      | view cs => obtain ⟨b, off, e, _⟩ := hv; exact .inl ⟨_, e⟩
      | fn f cs => obtain ⟨vs, e, _⟩ := hv; exact .inr ⟨f, vs, e⟩
      | elt p i off =>
        simp only at hp
        split at hp
        · rename_i ho
          generalize hct : content s p = c at ho
          cases c <;> simp [AV.isOwn] at ho
          obtain ⟨b, o0, n, cap, sz, _, _, e⟩ := hv.2 _ _ hct
          exact .inl ⟨_, e⟩
        · cases hp
      | _ => cases hp
    rcases this with ⟨ad, e⟩ | ⟨f, vs, e⟩ <;> rw [e] <;> exact Blind.pure _
  | binOp op t x y u =>
    rw [hop] at hp
    simp only [stepOp] at hp
    split at hp
    · rename_i p r hx hy
      obtain ⟨z, h1, rfl, rfl⟩ := map_pair hp
      refine fin (Blind.of_run (.value z) fun w' => ?_)
      have := binT_run (w := w') (x := x) (y := y) h1
      simp only [execOp, hop, h.val hx, h.val hy]
      rw [Sem.run_bind, this.1]
      rfl
    · cases hp
  | unOp op t x =>
    rw [hop] at hp
    simp only [stepOp] at hp
    split at hp
    · rename_i p hx
      obtain ⟨z, h1, rfl, rfl⟩ := map_pair hp
      refine fin (Blind.of_run (.value z) fun w' => ?_)
      have hv := h.val hx
      unfold unV at h1
      split at h1
      · simp only [Option.some.injEq] at h1; subst h1; simp [execOp, hop, hv, Op.unary]
      · simp only [Option.some.injEq] at h1; subst h1; simp [execOp, hop, hv, Op.unary, Op.intArith]
      · cases h1
    · cases hp
  | convert src dst x =>
    rw [hop] at hp
    simp only [stepOp] at hp
    split at hp
    · rename_i k0 k kk n h1 h2 hx
      exact fin (Blind.of_run (.value (.int k (k.wrap n))) fun w' => by simp [execOp, hop, convert, run_underlying h1, run_underlying h2, h.val hx, Conv.intToInt])
    · rename_i b h1 h2 hx
      exact fin (Blind.of_run (.value (.string b)) fun w' => by simp [execOp, hop, convert, run_underlying h1, run_underlying h2, h.val hx])
    · cases hp
  | slice t x lo hi mx => exact fin (by simp only [execOp, hop]; exact Blind.value (Blind.sliceAt _ _ _ _ _))
  | build t ps =>
    rw [hop] at hp
    simp only [stepOp] at hp
    split at hp
    · rename_i z qs hz hq
      split at hp
      · rename_i hok
        obtain ⟨cs, hf, _, _⟩ := map_pair hp
        obtain ⟨val, hr, _⟩ := build_all h o hop hz hq hok hf
        exact ⟨val, hr⟩
      · cases hp
    · cases hp
  | fieldAddr t x i =>
    rw [hop] at hp
    simp only [stepOp] at hp
    split at hp
    · rename_i off u hf
      split at hp
      · rename_i n hn
        obtain ⟨L, hv⟩ := h.operand x
        have : ∃ b o, a.eval x = .pointer (some ⟨b, o, none⟩) := by
          generalize ev E s x = c at hv hp
          cases c with
          | ptr o off => obtain ⟨b, _, e⟩ := hv; exact ⟨_, _, e⟩
          | view cs => obtain ⟨b, off, e, _⟩ := hv; exact ⟨_, _, e⟩
          | elt p i off =>
            simp only at hp
            split at hp
            · rename_i ho
              generalize hct : content s p = c at ho
              cases c <;> simp [AV.isOwn] at ho
              obtain ⟨b, o0, n, cap, sz, _, _, e⟩ := hv.2 _ _ hct
              exact ⟨_, _, e⟩
            · cases hp
          | _ => cases hp
        obtain ⟨b, o', e⟩ := this
        refine fin (Blind.of_run (.value (.pointer (some ⟨b, o' + off, none⟩))) fun w' => ?_)
        have := run_fieldAt (P := E.P) (w := w') (b := b) (o := o') hf hn
        simp only [execOp, hop, e]
        rw [Sem.run_bind, this]
        rfl
      · cases hp
    · cases hp
  | field t x i => exact fin (by simp only [execOp, hop]; exact Blind.value (Blind.field _ _ _))
  | indexAddr t x i => exact fin (by simp only [execOp, hop]; exact Blind.value (Blind.indexAt _ _ _))
  | index t x i => exact fin (by simp only [execOp, hop]; exact Blind.value (Blind.index _ _ _))
  | extract t i => exact fin (by simp only [execOp, hop]; exact Blind.value (Blind.extract _ _))
  | call c =>
    obtain ⟨callee, args, ts⟩ := c
    rw [hop] at hp hpu
    cases callee with
    | builtin b =>
      simp only [stepOp, builtinOp] at hp
      split at hp
      · rename_i x t ha ht
        obtain ⟨n, h1, rfl, rfl⟩ := map_pair hp
        exact ⟨_, fun w' => len_run h o hop ha ht h1 w'⟩
      · rename_i x y ha
        split at hp
        · rename_i k m k' n hx hy
          obtain rfl : args = #[x, y] := by apply Array.ext'; simpa using ha
          refine ⟨.int k (if n > m then n else m), fun w' => ?_⟩
          obtain ⟨cs, hcs⟩ := run_call_builtin (P := E.P) hop a w'
          rw [hcs]
          simp [builtin, Builtin.max_, Builtin.max2, h.val hx, h.val hy]
        · cases hp
      · rename_i x y ha
        split at hp
        · rename_i k m k' n hx hy
          obtain rfl : args = #[x, y] := by apply Array.ext'; simpa using ha
          refine ⟨.int k (if n < m then n else m), fun w' => ?_⟩
          obtain ⟨cs, hcs⟩ := run_call_builtin (P := E.P) hop a w'
          rw [hcs]
          simp [builtin, Builtin.min_, Builtin.min2, h.val hx, h.val hy]
        · cases hp
      · cases hpu
      · cases hp
    | value f => cases hpu
    | invoke r m => cases hpu
  | _ => rw [hop] at hpu; cases hpu

end Go.Ab
