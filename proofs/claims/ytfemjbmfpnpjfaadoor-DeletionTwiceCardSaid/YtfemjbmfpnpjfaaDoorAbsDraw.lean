/- What a step leaves alone in the world; loads that may come at any time. -/
import Derived.Test.YtfemjbmfpnpjfaaDoorAbsPure
namespace Go.Ab

variable {E : Env0} {X : Cx} {s s1 : St} {a : Act} {w : World} {P : Program}

/-- The world stays. -/
def DryW {α : Type} (P : Program) (m : Sem α) : Prop := ∀ w x w', m.run P w = .ok x w' → w' = w
/-- What was there stays. -/
def GrowW {α : Type} (P : Program) (m : Sem α) : Prop := ∀ w x w', m.run P w = .ok x w' → w.heap.size ≤ w'.heap.size ∧ ∀ b, b < w.heap.size → w'.heap[b]? = w.heap[b]?

theorem Blind.dry {α : Type} {m : Sem α} (h : Blind P m) : DryW P m := by
  intro w x w' e
  rcases h with ⟨y, hy⟩ | hn
  · rw [hy w] at e; cases e; rfl
  · exact absurd e (hn w x w')
theorem DryW.grow {α : Type} {m : Sem α} (h : DryW P m) : GrowW P m := by
  intro w x w' e
  rw [h w x w' e]
  exact ⟨Nat.le_refl _, fun _ _ => rfl⟩
theorem DryW.bind {α β : Type} {m : Sem α} {f : α → Sem β} (hm : DryW P m) (hf : ∀ x, DryW P (f x)) : DryW P (m >>= f) := by
  intro w y w' e
  rw [Sem.run_bind] at e
  cases h : m.run P w with
  | ok x w1 =>
    rw [h] at e
    have h1 := hm w x w1 h
    have h2 := hf x w1 y w' e
    rw [h2, h1]
  | halt x w1 => rw [h] at e; cases e
theorem GrowW.bind {α β : Type} {m : Sem α} {f : α → Sem β} (hm : GrowW P m) (hf : ∀ x, GrowW P (f x)) : GrowW P (m >>= f) := by
  intro w y w' e
  rw [Sem.run_bind] at e
  cases h : m.run P w with
  | ok x w1 =>
    rw [h] at e
    obtain ⟨h1, h2⟩ := hm w x w1 h
    obtain ⟨h3, h4⟩ := hf x w1 y w' e
    exact ⟨Nat.le_trans h1 h3, fun b hb => (h4 b (Nat.lt_of_lt_of_le hb h1)).trans (h2 b hb)⟩
  | halt x w1 => rw [h] at e; cases e

theorem DryW.load (ad : Addr) : DryW P (load ad) := by
  intro w x w' e
  simp only [Go.load, Sem.run] at e
  split at e
  · cases e; rfl
  · split at e
    · cases e; rfl
    · cases e
theorem DryW.cells (ad : Addr) : ∀ (n i : Nat) (acc : Array Value), DryW P (loadCellsFrom ad i n acc)
  | 0, _, acc => (Blind.pure acc).dry
  | n + 1, i, acc => DryW.bind (DryW.load _) fun v => DryW.cells ad n (i + 1) (acc.push v)
theorem DryW.loadVar (t : TypeId) (ad : Addr) : DryW P (loadVar t ad) := by
  refine DryW.bind (Blind.isAgg t).dry (fun g => ?_)
  split
  · exact DryW.bind (Blind.sizeOf t).dry fun n => DryW.bind (DryW.cells ad n 0 #[]) fun _ => (Blind.pure _).dry
  · exact DryW.load ad
theorem DryW.loadAt (t : TypeId) (v : Value) : DryW P (Instr.loadAt t v) := DryW.bind (Blind.sureAddr v).dry fun _ => DryW.loadVar t _

theorem GrowW.newRow (t : TypeId) (cs : Array Value) : GrowW P (newRow t cs) := by
  refine GrowW.bind ?_ (fun _ => (Blind.pure _).dry.grow)
  intro w x w' e
  simp only [newObj, Sem.run] at e
  cases e
  refine ⟨by simp, fun b hb => ?_⟩
  show (w.heap.push _)[b]? = _
  rw [Array.getElem?_push_lt hb]
  simp [hb]
theorem Blind.zeroValue (t : TypeId) : Blind P (zeroValue t) := by
  refine Blind.bind (Blind.typeInfo t) (fun i => ?_)
  split
  · exact Blind.pure _
  · exact Blind.unsupported _
theorem GrowW.alloc (t : TypeId) : GrowW P (Instr.alloc t true (.tuple #[])) := by
  unfold Instr.alloc
  exact GrowW.bind (Blind.zeroValue t).dry.grow fun z => GrowW.bind (GrowW.newRow _ _) fun _ => (Blind.pure _).dry.grow
theorem GrowW.buildSlice (t : TypeId) (n : Nat) (ps : Array (Nat × Value)) : GrowW P (Instr.buildSlice t n ps) := by
  unfold Instr.buildSlice
  refine GrowW.bind (Blind.underlying t).dry.grow (fun d => ?_)
  split
  · refine GrowW.bind (Blind.sizeOf _).dry.grow (fun sz => ?_)
    dsimp only
    split
    · exact GrowW.bind (Blind.unsupported _).dry.grow fun _ => by
        split
        · refine GrowW.bind (Blind.pure _).dry.grow fun z => ?_
          split
          · exact GrowW.bind (GrowW.newRow _ _) fun _ => (Blind.pure _).dry.grow
          · exact (Blind.stuck _).dry.grow
        · refine GrowW.bind (Blind.zeroValue _).dry.grow fun z => ?_
          refine GrowW.bind (Blind.pure _).dry.grow fun z => ?_
          split
          · exact GrowW.bind (GrowW.newRow _ _) fun _ => (Blind.pure _).dry.grow
          · exact (Blind.stuck _).dry.grow
    · split
      · refine GrowW.bind (Blind.pure _).dry.grow fun z => ?_
        split
        · exact GrowW.bind (GrowW.newRow _ _) fun _ => (Blind.pure _).dry.grow
        · exact (Blind.stuck _).dry.grow
      · refine GrowW.bind (Blind.zeroValue _).dry.grow fun z => ?_
        refine GrowW.bind (Blind.pure _).dry.grow fun z => ?_
        split
        · exact GrowW.bind (GrowW.newRow _ _) fun _ => (Blind.pure _).dry.grow
        · exact (Blind.stuck _).dry.grow
  · exact (Blind.stuck _).dry.grow

theorem GrowW.choose (q : Question) : GrowW P (choose q) := by
  intro w x w' e
  simp only [Go.choose, Sem.run] at e
  by_cases hf : q.forced = true
  · simp only [hf] at e
    cases e
    exact ⟨Nat.le_refl _, fun _ _ => rfl⟩
  · simp only [Bool.not_eq_true] at hf
    simp only [hf] at e
    cases e
    exact ⟨Nat.le_refl _, fun _ _ => rfl⟩
theorem GrowW.mark (m : Mark) : GrowW P (mark m) := by
  intro w x w' e
  simp only [Go.mark, Sem.run] at e
  first
  | (cases e; exact ⟨Nat.le_refl _, fun _ _ => rfl⟩)
  | (split at e <;> cases e)
theorem GrowW.askRoom (n : Nat) : GrowW P (askRoom n) := by
  unfold Go.askRoom
  split
  · exact GrowW.mark _
  · exact (Blind.pure _).dry.grow
theorem Blind.lenOf (x : Value) : Blind P (Builtin.lenOf x) := by
  unfold Builtin.lenOf
  split
  · exact Blind.pure _
  · exact Blind.pure _
  · exact Blind.stuck _
theorem DryW.firstCells (a b : Nat) (x : Value) : DryW P (Builtin.firstCells a b x) := by
  unfold Builtin.firstCells
  split
  · exact DryW.cells _ _ _ _
  · exact (Blind.pure _).dry
  · exact (Blind.pure _).dry
  · exact (Blind.stuck _).dry
theorem GrowW.ite {α : Type} {c : Prop} [Decidable c] {m m' : Sem α} (h : GrowW P m) (h' : GrowW P m') : GrowW P (if c then m else m') := by
  split
  · exact h
  · exact h'
theorem GrowW.never {α : Type} {m : Sem α} (h : ∀ w x w', m.run P w ≠ .ok x w') : GrowW P m := fun w x w' e => absurd e (h w x w')
theorem never_bind {α β : Type} {m : Sem α} {f : α → Sem β} (h : ∀ x w y w', (f x).run P w ≠ .ok y w') : ∀ w y w', (m >>= f).run P w ≠ .ok y w' := by
  intro w y w' e
  rw [Sem.run_bind] at e
  cases hm : m.run P w with
  | ok x w1 => rw [hm] at e; exact h x w1 y w' e
  | halt x w1 => rw [hm] at e; cases e
theorem never_unsupported {α : Type} (u : Unsupported) : ∀ w (y : α) w', (unsupported u : Sem α).run P w ≠ .ok y w' := by
  intro w y w' e
  simp [unsupported, Sem.run] at e
theorem Blind.asInt (x : Value) : Blind P (asInt x) := by
  exact Blind.bind (Blind.asIntOf x) fun _ => Blind.pure _
theorem GrowW.noRoom (b : Sem Bool) (u u' : Unsupported) : GrowW P (do let x ← b; if (!x) = true then (do Go.mark .noRoom; (unsupported u : Sem PUnit)) else unsupported u') := by
  apply GrowW.never
  apply never_bind
  intro x w y w'
  split
  · exact never_bind (fun _ => never_unsupported u) w y w'
  · exact never_unsupported u' w y w'
theorem GrowW.append_nil (ts : Array TypeId) (ty : TypeId) (x : Value) : GrowW P (Builtin.append_ ts ty #[.slice none 0 0, x]) := by
  have h0 : (#[Value.slice none 0 0, x] : Array Value)[0]? = some (.slice none 0 0) := rfl
  have h1 : (#[Value.slice none 0 0, x] : Array Value)[1]? = some x := rfl
  unfold Builtin.append_
  simp only [h0, h1]
  cases ts[0]? with
  | none => exact (Blind.stuck _).dry.grow
  | some st =>
    simp only
    refine GrowW.bind (Blind.underlying _).dry.grow fun d => ?_
    split
    · refine GrowW.bind (Blind.sizeOf _).dry.grow fun sz => ?_
      repeat' (first
        | with_reducible exact GrowW.noRoom _ _ _
        | with_reducible exact (Blind.pure _).dry.grow | with_reducible exact (Blind.stuck _).dry.grow | with_reducible exact (Blind.unsupported _).dry.grow | with_reducible exact (Blind.runtimePanic _).dry.grow
        | with_reducible exact (Blind.underlying _).dry.grow | with_reducible exact (Blind.typeInfo _).dry.grow | with_reducible exact (Blind.zeroValue _).dry.grow | with_reducible exact (Blind.asInt _).dry.grow | with_reducible exact (Blind.lenOf _).dry.grow
        | with_reducible exact (DryW.firstCells _ _ _).grow | with_reducible exact GrowW.choose _ | with_reducible exact GrowW.askRoom _ | with_reducible exact GrowW.mark _ | with_reducible exact GrowW.newRow _ _
        | with_reducible refine GrowW.ite ?_ ?_
        | with_reducible refine GrowW.bind ?_ (fun _ => ?_)
        | split)
    · exact (Blind.stuck _).dry.grow

def isLoad : Op → Bool
  | .load .. => true
  | _ => false
def isAlloc : Op → Bool
  | .alloc _ | .buildSlice .. => true
  | .call { callee := .builtin .append, args, .. } => match args.toList with | [.const (.slice none 0 0), _] => true | _ => false
  | _ => false

theorem dry_load (o : Oper) (ho : isLoad o.op = true) (ρ : Operand → Value) : DryW P (execOp ρ o) := by
  cases hop : o.op with
  | load t x => simp only [execOp, hop]; exact DryW.bind (DryW.loadAt _ _) fun _ => (Blind.pure _).dry
  | _ => rw [hop] at ho; cases ho
theorem grow_alloc (o : Oper) (ho : isAlloc o.op = true) (ρ : Operand → Value) (hρ : ∀ v, ρ (.const v) = v) : GrowW P (execOp ρ o) := by
  cases hop : o.op with
  | alloc t => simp only [execOp, hop]; exact GrowW.bind (GrowW.alloc _) fun _ => (Blind.pure _).dry.grow
  | buildSlice t n ps => simp only [execOp, hop]; exact GrowW.bind (GrowW.buildSlice _ _ _) fun _ => (Blind.pure _).dry.grow
  | call c =>
    obtain ⟨callee, args, ts⟩ := c
    rw [hop] at ho
    cases callee with
    | builtin b => cases b with
      | append =>
        simp only [isAlloc] at ho
        split at ho
        · rename_i y hargs
          have ha : args = #[.const (.slice none 0 0), y] := by
            have := congrArg List.toArray hargs
            simpa using this
          subst ha
          have hm : (#[Operand.const (.slice none 0 0), y] : Array Operand).map ρ = #[.slice none 0 0, ρ y] := by simp [hρ]
          simp only [execOp, hop, resolve, hm]
          show GrowW P (do let v ← Builtin.append_ ts o.type #[.slice none 0 0, ρ y]; pure (Next.value v))
          exact GrowW.bind (GrowW.append_nil _ _ _) fun _ => (Blind.pure _).dry.grow
        · cases ho
      | _ => cases ho
    | _ => cases ho
  | _ => rw [hop] at ho; cases ho

/-- These cells stay. -/
def Pres (B : Nat → Nat → Prop) (w w' : World) : Prop := ∀ b o u, B b o → w.cell? ⟨b, o, none⟩ = some u → w'.cell? ⟨b, o, none⟩ = some u

/-- A cell that no quiet step writes: nobody may write it; or it lies in a variable above the split. -/
def Safe (X : Cx) (w : World) (m b o : Nat) : Prop := (X.imm b o ∧ ∃ u, w.cell? ⟨b, o, none⟩ = some u) ∨ ∃ o', above m o' = true ∧ X.mu[o']? = some b

theorem Safe.ext {X' : Cx} {w' : World} {m b o : Nat} (hE : Ext X w X' w') (hm : ∃ more, X'.mu = X.mu ++ more) (h : Safe X w m b o) : Safe X' w' m b o := by
  rcases h with ⟨h1, u, h2⟩ | ⟨o', h1, h2⟩
  · obtain ⟨h3, h4⟩ := hE.point h2 h1
    exact .inl ⟨h4, u, h3⟩
  · obtain ⟨more, hm⟩ := hm
    refine .inr ⟨o', h1, ?_⟩
    rw [hm, List.getElem?_append_left (List.getElem?_eq_some_iff.1 h2).1]; exact h2

/-- A load of plain memory or of a variable above the split yields the same wherever these cells are the same. -/
theorem load_look (h : Rel E X s a w) (o : Oper) {m : Nat} {t : TypeId} {x : Operand} (ho : o.op = .load t x) {fl : Flag} {q : Bool} {v : AV} (hp : loadOp E fl q t (ev E s x) s = some (v, s1))
    (hx : (∃ ob off, ev E s x = .ptr ob off ∧ above m ob = true) ∨ ∃ cs, ev E s x = .view cs) :
    ∃ (val : Value) (C : Nat → Nat → Prop), (∀ b o, C b o → Safe X w m b o) ∧ ∀ w', Pres C w w' → (execOp a.eval o).run E.P w' = .ok (.value val) w' := by
  -- from cells that are there
  have fin : ∀ (b off : Nat), a.eval x = .pointer (some ⟨b, off, none⟩) →
      (tyAgg E.P t = some false ∧ (∃ u, w.cell? ⟨b, off, none⟩ = some u ∧ Safe X w m b off)) ∨ (∃ n, tyAgg E.P t = some true ∧ tySize E.P t = some n ∧ ∀ j, j < n → ∃ u, w.cell? ⟨b, off + j, none⟩ = some u ∧ Safe X w m b (off + j)) →
      ∃ (val : Value) (C : Nat → Nat → Prop), (∀ b o, C b o → Safe X w m b o) ∧ ∀ w', Pres C w w' → (execOp a.eval o).run E.P w' = .ok (.value val) w' := by
    intro b off hev hc
    rcases hc with ⟨ht, u, hu, hs⟩ | ⟨n, ht, hn, hh⟩
    · exact ⟨u, fun b' o' => b' = b ∧ o' = off, fun b' o' e => by obtain ⟨rfl, rfl⟩ := e; exact hs, fun w' hw => run_exec_load ho hev (run_loadVar_one ht (hw b off u ⟨rfl, rfl⟩ hu))⟩
    · let f : Nat → Value := fun j => (w.cell? ⟨b, off + j, none⟩).getD undef
      have hf : ∀ j, j < n → w.cell? ⟨b, off + j, none⟩ = some (f j) := fun j hj => by
        obtain ⟨u, hu, _⟩ := hh j hj
        simp [f, hu]
      refine ⟨.agg ((List.range n).map f).toArray, fun b' o' => b' = b ∧ ∃ j, j < n ∧ o' = off + j, fun b' o' e => ?_, fun w' hw => run_exec_load ho hev (run_loadVar_agg ht hn (by simp) (fun j v hj => ?_))⟩
      · obtain ⟨rfl, j, hj, rfl⟩ := e
        obtain ⟨u, _, hs⟩ := hh j hj
        exact hs
      · simp only [List.getElem?_map, Option.map_eq_some_iff] at hj
        obtain ⟨k, hk, rfl⟩ := hj
        have hjn : j < n := by have := (List.getElem?_eq_some_iff.1 hk).1; simpa using this
        have : k = j := by rw [List.getElem?_range hjn] at hk; cases hk; rfl
        subst this
        exact hw b (off + k) _ ⟨rfl, k, hjn, rfl⟩ (hf k hjn)
  rcases hx with ⟨ob, off, hx, hm⟩ | ⟨cs, hx⟩
  · obtain ⟨b, hb, hev⟩ := h.ptr hx
    refine fin b off hev ?_
    have hlt : ob < s.heap.length := by rw [← h.mu]; exact (List.getElem?_eq_some_iff.1 hb).1
    obtain ⟨b', cur, e, hb', hg, hw, hn, hh⟩ := h.heap ob s.heap[ob] (by simp [hlt])
    rw [hb] at hb'; cases hb'
    have cell : ∀ j, j < cur.size → ∃ u, w.cell? ⟨b, j, none⟩ = some u := fun j hj => ⟨cur[j], by simp [cell_of_row w b j cur e (0, 0) hw, hj]⟩
    have safe : ∀ j, Safe X w m b j := fun j => .inr ⟨ob, hm, hb⟩
    unfold loadOp at hp
    rw [hx] at hp
    cases ht : tyAgg E.P t with
    | none => simp [ht] at hp
    | some g =>
      cases g with
      | false =>
        have hp' : readPlace fl q s (.cell ob off) = some (v, s1) := by simp only [ht] at hp; cases hz : tySize E.P t <;> simpa [hz] using hp
        have hu : content s (.cell ob off) ≠ .undef := by
          intro hu; unfold readPlace at hp'; simp [hu] at hp'
        obtain ⟨cs, h1, h2⟩ := content_cell rfl hu
        have hl : off < cur.size := by
          rw [hn]
          have e1 : cs = s.heap[ob] := by rw [List.getElem?_eq_getElem hlt] at h1; cases h1; rfl
          rw [← e1]; exact (List.getElem?_eq_some_iff.1 h2).1
        obtain ⟨u, hu⟩ := cell off hl
        exact .inl ⟨rfl, u, hu, safe _⟩
      | true =>
        cases hz : tySize E.P t with
        | none => simp [ht, hz] at hp
        | some n =>
          refine .inr ⟨n, rfl, rfl, fun j hj => ?_⟩
          simp only [ht, hz, List.getElem?_eq_getElem hlt] at hp
          split at hp
          · rename_i hle
            obtain ⟨u, hu⟩ := cell (off + j) (by omega)
            exact ⟨u, hu, safe _⟩
          · cases hp
  · obtain ⟨b, off, hev, hh⟩ := h.viewp hx
    refine fin b off hev ?_
    unfold loadOp at hp
    rw [hx] at hp
    cases ht : tyAgg E.P t with
    | none => simp [ht] at hp
    | some g =>
      cases g with
      | false =>
        cases cs with
        | nil => simp only [ht] at hp; cases hz : tySize E.P t <;> simp [hz] at hp
        | cons c r =>
          obtain ⟨u, h1, h2, _⟩ := hh 0 c rfl
          exact .inl ⟨rfl, u, h1, .inl ⟨h2, u, h1⟩⟩
      | true =>
        cases hz : tySize E.P t with
        | none => simp [ht, hz] at hp
        | some n =>
          refine .inr ⟨n, rfl, rfl, fun j hj => ?_⟩
          simp only [ht, hz] at hp
          split at hp
          · rename_i hle
            obtain ⟨u, h1, h2, _⟩ := hh j cs[j] (by simp [show j < cs.length by omega])
            exact ⟨u, h1, .inl ⟨h2, u, h1⟩⟩
          · cases hp

end Go.Ab
