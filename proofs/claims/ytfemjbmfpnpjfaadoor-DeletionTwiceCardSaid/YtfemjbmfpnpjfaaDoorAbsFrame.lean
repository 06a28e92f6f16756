/- An operation does not see temporaries that it does not name, nor variables that nothing leads to. -/
import Derived.Test.YtfemjbmfpnpjfaaDoorAbsOrder
namespace Go.Ab

variable {E : Env0} {N : List Nat} {W : Nat → AV} {hx : Heap} {s s' s1 : St}

/-- The second state has more: values at 'N', variables 'hx' behind the first one's. -/
structure Sim (N : List Nat) (W : Nat → AV) (hx : Heap) (s s' : St) : Prop where
  out : ∀ u, u ∉ N → get s'.env u = get s.env u
  inn : ∀ u, u ∈ N → get s.env u = .undef ∧ get s'.env u = W u
  calm : ∀ u, u ∈ N → (W u).placed = false ∧ (W u).isOwn = false
  heap : s'.heap = s.heap ++ hx

theorem Sim.ev (h : Sim N W hx s s') {x : Operand} (hx' : ∀ t ∈ tmpOf x, t ∉ N) : ev E s' x = ev E s x := by
  cases x with
  | tmp t => exact h.out t (hx' t (by simp [tmpOf]))
  | _ => rfl
theorem Sim.plainC (h : Sim N W hx s s') {x : Operand} (hx' : ∀ t ∈ tmpOf x, t ∉ N) : plainC E s' x = plainC E s x := by
  cases x with
  | const v => rfl
  | _ => simp only [Ab.plainC]; rw [h.ev hx']
theorem Sim.plainsC (h : Sim N W hx s s') : ∀ {l : List Operand}, (∀ x ∈ l, ∀ t ∈ tmpOf x, t ∉ N) → plainsC E s' l = plainsC E s l
  | [], _ => rfl
  | x :: r, hl => by
    simp only [Ab.plainsC]
    rw [h.plainC (hl x (by simp)), h.plainsC (fun y hy => hl y (by simp [hy]))]
theorem Sim.cell (h : Sim N W hx s s') {o off : Nat} {v : AV} (hv : cellOf s.heap o off = v) (hne : v ≠ .undef) : cellOf s'.heap o off = v ∧ o < s.heap.length := by
  have hlt : o < s.heap.length := by
    by_cases hl : o < s.heap.length
    · exact hl
    · exfalso
      apply hne
      rw [← hv]
      simp only [cellOf, List.getElem?_eq_none (Nat.not_lt.1 hl)]
  refine ⟨?_, hlt⟩
  rw [← hv, h.heap]
  simp only [cellOf, List.getElem?_append_left hlt]
theorem Sim.content (h : Sim N W hx s s') {p : Place} {v : AV} (hv : content s p = v) (hne : v ≠ .undef) : content s' p = v := by
  cases p with
  | slot t =>
    have ht : t ∉ N := fun hm => hne (by rw [← hv]; exact (h.inn t hm).1)
    rw [← hv]; exact h.out t ht
  | cell o off => exact (h.cell hv hne).1

theorem Sim.putE (h : Sim N W hx s s') {t : Nat} (ht : t ∉ N) (v : AV) : Sim N W hx { s with env := putE s.env t v } { s' with env := putE s'.env t v } := by
  refine ⟨fun u hu => ?_, fun u hu => ?_, h.calm, h.heap⟩
  · simp only [get_putE, h.out u hu, h.out t ht]
  · have hne : t ≠ u := fun e => ht (e ▸ hu)
    obtain ⟨h1, h2⟩ := h.inn u hu
    simp only [get_putE, if_neg hne, h1, h2, sitsAt_of (h.calm u hu).1, Bool.and_false, Bool.false_eq_true, if_false]
    exact ⟨by split <;> rfl, trivial⟩
theorem Sim.put (h : Sim N W hx s s') {d : Option Nat} (hd : ∀ t, d = some t → t ∉ N) (v : AV) : Sim N W hx (s.put d v) (s'.put d v) := by
  cases d with
  | none => exact h
  | some t => exact h.putE (hd t rfl) v
theorem Sim.del (l : List Nat) : ∀ {s s' : St}, Sim N W hx s s' → (∀ t ∈ l, t ∉ N) → Sim N W hx (s.del l) (s'.del l) := by
  induction l with
  | nil => intro s s' h _; exact h
  | cons t r ih => intro s s' h hl; exact ih (h.putE (hl t (by simp)) .undef) (fun u hu => hl u (by simp [hu]))
theorem Sim.setE (h : Sim N W hx s s') {t : Nat} (ht : t ∉ N) (v : AV) : Sim N W hx { s with env := setE s.env t v } { s' with env := setE s'.env t v } := by
  refine ⟨fun u hu => ?_, fun u hu => ?_, h.calm, h.heap⟩
  · simp only [get_setE, h.out u hu]
  · have hne : t ≠ u := fun e => ht (e ▸ hu)
    simp only [get_setE, if_neg hne]
    exact h.inn u hu
theorem Sim.kill (h : Sim N W hx s s') : Sim N W hx { s with env := killPlaced s.env } { s' with env := killPlaced s'.env } := by
  refine ⟨fun u hu => ?_, fun u hu => ?_, h.calm, h.heap⟩
  · simp only [get_killPlaced, h.out u hu]
  · obtain ⟨h1, h2⟩ := h.inn u hu
    simp only [get_killPlaced, h1, h2, (h.calm u hu).1, Bool.false_eq_true, if_false, and_true]
    split <;> rfl
theorem Sim.heapSet (h : Sim N W hx s s') (o : Nat) (cs : List AV) (ho : o < s.heap.length) : Sim N W hx { s with heap := s.heap.set o cs } { s' with heap := s'.heap.set o cs } := by
  refine ⟨h.out, h.inn, h.calm, ?_⟩
  show s'.heap.set o cs = _
  rw [h.heap, List.set_append_left _ _ ho]
theorem Sim.setCell (h : Sim N W hx s s') (o off : Nat) (v : AV) (ho : o < s.heap.length) : Sim N W hx { s with heap := setCellA s.heap o off v } { s' with heap := setCellA s'.heap o off v } := by
  have h1 : s'.heap[o]? = s.heap[o]? := by rw [h.heap, List.getElem?_append_left ho]
  simp only [setCellA, h1]
  cases hcs : s.heap[o]? with
  | none => exact h
  | some cs => exact h.heapSet o _ ho
theorem Sim.lendPlace (h : Sim N W hx s s') {p : Place} {v w : AV} (hv : Ab.content s p = v) (hne : v ≠ .undef) : Sim N W hx (lendPlace s p w) (lendPlace s' p w) := by
  cases p with
  | slot t =>
    have ht : t ∉ N := fun hm => hne (by rw [← hv]; exact (h.inn t hm).1)
    exact h.setE ht w
  | cell o off => exact h.setCell o off w (h.cell hv hne).2
theorem Sim.setPlace (h : Sim N W hx s s') {p : Place} {v w : AV} (hv : Ab.content s p = v) (hne : v ≠ .undef) : Sim N W hx (setPlace s p w) (setPlace s' p w) := by
  cases p with
  | slot t =>
    have ht : t ∉ N := fun hm => hne (by rw [← hv]; exact (h.inn t hm).1)
    exact h.putE ht w
  | cell o off => exact (h.kill).setCell o off w (h.cell hv hne).2

/-- What comes out of the one comes out of the other. -/
def SimO (N : List Nat) (W : Nat → AV) (hx : Heap) (a b : Option (AV × St)) : Prop := ∀ v s1, a = some (v, s1) → ∃ s2, b = some (v, s2) ∧ Sim N W hx s1 s2
def SimS (N : List Nat) (W : Nat → AV) (hx : Heap) (a b : Option St) : Prop := ∀ s1, a = some s1 → ∃ s2, b = some s2 ∧ Sim N W hx s1 s2

theorem Sim.readPlace (h : Sim N W hx s s') (fl : Flag) (q : Bool) (p : Place) : SimO N W hx (readPlace fl q s p) (readPlace fl q s' p) := by
  intro v s1 hr
  unfold Ab.readPlace at hr ⊢
  generalize hc : Ab.content s p = c at hr
  have hne : c ≠ .undef := by rintro rfl; simp at hr
  rw [h.content hc hne]
  cases c with
  | own xs l =>
    cases fl with
    | keep => simp only [Option.some.injEq, Prod.mk.injEq] at hr ⊢; obtain ⟨rfl, rfl⟩ := hr; exact ⟨s', ⟨rfl, rfl⟩, h⟩
    | view =>
      simp only at hr ⊢
      split at hr
      · rename_i hl; rw [if_pos hl]; simp only [Option.some.injEq, Prod.mk.injEq] at hr ⊢; obtain ⟨rfl, rfl⟩ := hr; exact ⟨s', ⟨rfl, rfl⟩, h⟩
      · rename_i hl
        rw [if_neg hl]
        split at hr
        · cases hr
        · rename_i hq
          rw [if_neg hq]
          simp only [Option.some.injEq, Prod.mk.injEq] at hr ⊢
          obtain ⟨rfl, rfl⟩ := hr
          exact ⟨_, ⟨rfl, rfl⟩, h.lendPlace hc hne⟩
  | undef => cases hr
  | skipped => cases hr
  | loc p => cases hr
  | elt p i o => simp only [Option.some.injEq, Prod.mk.injEq] at hr ⊢; obtain ⟨rfl, rfl⟩ := hr; exact ⟨s', ⟨rfl, rfl⟩, h⟩
  | agg cs => cases hr
  | d x => simp only [Option.some.injEq, Prod.mk.injEq] at hr ⊢; obtain ⟨rfl, rfl⟩ := hr; exact ⟨s', ⟨rfl, rfl⟩, h⟩
  | ptr o a => simp only [Option.some.injEq, Prod.mk.injEq] at hr ⊢; obtain ⟨rfl, rfl⟩ := hr; exact ⟨s', ⟨rfl, rfl⟩, h⟩
  | view cs => simp only [Option.some.injEq, Prod.mk.injEq] at hr ⊢; obtain ⟨rfl, rfl⟩ := hr; exact ⟨s', ⟨rfl, rfl⟩, h⟩
  | fn f cs => simp only [Option.some.injEq, Prod.mk.injEq] at hr ⊢; obtain ⟨rfl, rfl⟩ := hr; exact ⟨s', ⟨rfl, rfl⟩, h⟩
  | tup cs => simp only [Option.some.injEq, Prod.mk.injEq] at hr ⊢; obtain ⟨rfl, rfl⟩ := hr; exact ⟨s', ⟨rfl, rfl⟩, h⟩

theorem Sim.elt (h : Sim N W hx s s') {p : Place} {i off : Nat} {cs : List D} (hc : eltCells s p i off = some cs) : eltCells s' p i off = some cs := by
  unfold eltCells at hc ⊢
  generalize hcc : Ab.content s p = c at hc
  have hne : c ≠ .undef := by rintro rfl; simp at hc
  rw [h.content hcc hne]; exact hc
theorem length_setCell (h : Heap) (o off : Nat) (v : AV) : (setCellA h o off v).length = h.length := by
  unfold setCellA
  split <;> simp
theorem Sim.cell' (h : Sim N W hx s s') {o : Nat} (ho : o < s.heap.length) (off : Nat) : cellOf s'.heap o off = cellOf s.heap o off := by
  rw [h.heap]; simp only [cellOf, List.getElem?_append_left ho]
theorem Sim.lendFrom : ∀ (n : Nat) {s s' : St} (o off : Nat), o < s.heap.length → Sim N W hx s s' → Sim N W hx (lendFrom s o off n) (lendFrom s' o off n)
  | 0, _, _, _, _, _, h => h
  | n + 1, s, s', o, off, ho, h => by
    simp only [Ab.lendFrom]
    rw [h.cell' ho]
    generalize hd : cellOf s.heap o off = d
    cases d with
    | own xs l => cases l with
      | true => exact Sim.lendFrom n o (off + 1) ho h
      | false => exact Sim.lendFrom n o (off + 1) (by show o < (setCellA s.heap o off _).length; rw [length_setCell]; exact ho) (h.lendPlace (p := .cell o off) (v := .own xs false) hd (by simp))
    | _ => exact Sim.lendFrom n o (off + 1) ho h

theorem Sim.load (h : Sim N W hx s s') (fl : Flag) (q : Bool) (t : TypeId) (a : AV) : SimO N W hx (loadOp E fl q t a s) (loadOp E fl q t a s') := by
  intro v s1 hr
  unfold loadOp at hr ⊢
  split at hr
  · split at hr
    · exact h.readPlace _ _ _ _ _ hr
    · simp only [Option.some.injEq, Prod.mk.injEq] at hr ⊢; obtain ⟨rfl, rfl⟩ := hr; exact ⟨s', ⟨rfl, rfl⟩, h⟩
    · rename_i p i off
      split at hr
      · rename_i c cs hc
        simp only [h.elt hc]
        simp only [Option.some.injEq, Prod.mk.injEq] at hr ⊢; obtain ⟨rfl, rfl⟩ := hr; exact ⟨s', ⟨rfl, rfl⟩, h⟩
      · cases hr
    · cases hr
  · rename_i n hg hn
    split at hr
    · rename_i o off
      split at hr
      · rename_i cs hcs
        have ho : o < s.heap.length := (List.getElem?_eq_some_iff.1 hcs).1
        have hcs' : s'.heap[o]? = some cs := by rw [h.heap, List.getElem?_append_left ho]; exact hcs
        simp only [hcs']
        split at hr
        · rename_i hle
          rw [if_pos hle]
          split at hr
          · split at hr
            · rename_i hl
              rw [if_pos hl]
              simp only [Option.some.injEq, Prod.mk.injEq] at hr ⊢; obtain ⟨rfl, rfl⟩ := hr; exact ⟨s', ⟨rfl, rfl⟩, h⟩
            · rename_i hl
              rw [if_neg hl]
              split at hr
              · cases hr
              · rename_i hq
                rw [if_neg hq]
                simp only [Option.some.injEq, Prod.mk.injEq] at hr ⊢; obtain ⟨rfl, rfl⟩ := hr
                exact ⟨_, ⟨rfl, rfl⟩, Sim.lendFrom n o off ho h⟩
          · cases hr
        · cases hr
      · cases hr
    · split at hr
      · rename_i hle
        simp only [if_pos hle]
        simp only [Option.some.injEq, Prod.mk.injEq] at hr ⊢; obtain ⟨rfl, rfl⟩ := hr; exact ⟨s', ⟨rfl, rfl⟩, h⟩
      · cases hr
    · split at hr
      · rename_i cs hc
        simp only [h.elt hc]
        split at hr
        · rename_i hle
          rw [if_pos hle]
          simp only [Option.some.injEq, Prod.mk.injEq] at hr ⊢; obtain ⟨rfl, rfl⟩ := hr; exact ⟨s', ⟨rfl, rfl⟩, h⟩
        · cases hr
      · cases hr
    · cases hr
  · cases hr

theorem Sim.storeCells (h : Sim N W hx s s') (a : AV) (vs : List AV) : SimS N W hx (storeCellsA a vs s) (storeCellsA a vs s') := by
  intro s1 hr
  unfold storeCellsA at hr ⊢
  split at hr
  · rename_i o off
    split at hr
    · rename_i cs hcs
      have ho : o < s.heap.length := (List.getElem?_eq_some_iff.1 hcs).1
      have hcs' : s'.heap[o]? = some cs := by rw [h.heap, List.getElem?_append_left ho]; exact hcs
      simp only [hcs']
      split at hr
      · rename_i hle
        rw [if_pos hle]
        simp only [Option.some.injEq] at hr ⊢
        subst hr
        refine ⟨_, rfl, ?_⟩
        by_cases hk : ((cs.drop off).take vs.length ++ vs).any AV.isOwn = true
        · simp only [hk, if_true]; exact (h.kill).heapSet o _ ho
        · simp only [hk, Bool.false_eq_true, if_false]; exact h.heapSet o _ ho
      · cases hr
    · cases hr
  · rename_i p i off
    split at hr
    · rename_i xs ds hc hds
      simp only [h.content hc (by simp), hds]
      split at hr
      · split at hr
        · rename_i hle
          rw [if_pos hle]
          simp only [Option.some.injEq] at hr ⊢
          subst hr
          exact ⟨_, rfl, h.lendPlace hc (by simp)⟩
        · cases hr
      · cases hr
    · cases hr
  · cases hr
theorem Sim.store (h : Sim N W hx s s') (t : TypeId) {a x : Operand} (ha : ∀ t ∈ tmpOf a, t ∉ N) (hx' : ∀ t ∈ tmpOf x, t ∉ N) : SimS N W hx (storeOp E t a x s) (storeOp E t a x s') := by
  intro s1 hr
  unfold storeOp at hr ⊢
  rw [h.ev hx', h.ev ha]
  split at hr
  · split at hr
    · rename_i hc
      rw [if_pos hc]
      exact (h.del (tmpOf x) hx').storeCells _ _ s1 hr
    · cases hr
  · cases hr

theorem Sim.parts : ∀ {l : List (Nat × Operand)} {s s' : St}, Sim N W hx s s' → (∀ p ∈ l, ∀ t ∈ tmpOf p.2, t ∉ N) → partsOf E s' l = partsOf E s l
  | [], _, _, _, _ => rfl
  | (i, x) :: r, s, s', h, hl => by
    have h1 : ∀ t ∈ tmpOf x, t ∉ N := hl (i, x) (by simp)
    simp only [partsOf]
    rw [h.ev h1, Sim.parts (h.del (tmpOf x) h1) (fun p hp => hl p (by simp [hp]))]
theorem Sim.caps (h : Sim N W hx s s') : ∀ {l : List Operand}, (∀ x ∈ l, ∀ t ∈ tmpOf x, t ∉ N) → capsOf E s' l = capsOf E s l
  | [], _ => rfl
  | x :: r, hl => by
    simp only [capsOf]
    rw [h.ev (hl x (by simp)), h.caps (fun y hy => hl y (by simp [hy]))]
theorem Sim.args (h : Sim N W hx s s') : ∀ {l : List Operand}, (∀ x ∈ l, ∀ t ∈ tmpOf x, t ∉ N) → argsOf E s' l = argsOf E s l
  | [], _ => rfl
  | x :: r, hl => by
    simp only [argsOf, argOf]
    rw [h.ev (hl x (by simp)), h.plainC (hl x (by simp)), h.args (fun y hy => hl y (by simp [hy]))]
theorem Sim.len (h : Sim N W hx s s') {t : TypeId} {a : AV} {n : Nat} (hn : lenA E t a s = some n) : lenA E t a s' = some n := by
  unfold lenA at hn ⊢
  split at hn
  · exact hn
  · exact hn
  · rename_i p hu
    split at hn
    · rename_i xs l hc; rw [h.content hc (by simp)]; exact hn
    · cases hn
  · cases hn

/-- The temporaries that an operation names beside its destination. -/
def opTmps (op : Op) : List Nat := op.operands.toList.flatMap tmpOf
/-- Not one that makes a variable. -/
def noNew : Op → Bool
  | .alloc _ | .box .. => false
  | _ => true

theorem Sim.append (h : Sim N W hx s s') (q : Bool) (t : TypeId) {x y : Operand} (hx1 : ∀ t ∈ tmpOf x, t ∉ N) (hy1 : ∀ t ∈ tmpOf y, t ∉ N) : SimO N W hx (appendOp E q t x y s) (appendOp E q t x y s') := by
  intro v s1 hr
  unfold appendOp at hr ⊢
  rw [h.plainC hy1, h.ev hx1]
  split at hr
  · split at hr
    · rename_i b hb
      split at hr
      · rename_i hcond
        rw [if_pos hcond]
        split at hr
        · split at hr
          · rename_i hc
            rw [if_pos hc]
            simp only [Option.some.injEq, Prod.mk.injEq] at hr ⊢; obtain ⟨rfl, rfl⟩ := hr; exact ⟨s', ⟨rfl, rfl⟩, h⟩
          · cases hr
        · rename_i p hp
          split at hr
          · rename_i xs l hc
            simp only [h.content hc (by simp)]
            split at hr
            · rename_i hc2
              rw [if_pos hc2]
              simp only [Option.some.injEq, Prod.mk.injEq] at hr ⊢; obtain ⟨rfl, rfl⟩ := hr
              exact ⟨_, ⟨rfl, rfl⟩, h.setPlace hc (by simp)⟩
            · cases hr
          · cases hr
        · cases hr
      · cases hr
    · cases hr
  · cases hr

theorem mem_tmps {op : Op} {x : Operand} (hm : x ∈ op.operands.toList) {t : Nat} (ht : t ∈ tmpOf x) : t ∈ opTmps op := List.mem_flatMap.2 ⟨x, hm, ht⟩
theorem SimO.same (h : Sim N W hx s s') {f : St → Option AV} (he : ∀ v, f s = some v → f s' = some v) : SimO N W hx ((f s).map fun v => (v, s)) ((f s').map fun v => (v, s')) := by
  intro v s1 hr
  cases hf : f s with
  | none => rw [hf] at hr; cases hr
  | some w =>
    rw [hf] at hr
    simp only [Option.map_some, Option.some.injEq, Prod.mk.injEq] at hr
    obtain ⟨rfl, rfl⟩ := hr
    exact ⟨s', by rw [he _ hf]; rfl, h⟩
theorem SimO.eq (h : Sim N W hx s s') {v : AV} : SimO N W hx (some (v, s)) (some (v, s')) := by
  intro w s1 hr
  simp only [Option.some.injEq, Prod.mk.injEq] at hr
  obtain ⟨rfl, rfl⟩ := hr
  exact ⟨s', rfl, h⟩
theorem SimO.none (b : Option (AV × St)) : SimO N W hx Option.none b := by intro w s1 hr; cases hr

theorem SimO.const (h : Sim N W hx s s') (o : Option AV) : SimO N W hx (o.map fun v => (v, s)) (o.map fun v => (v, s')) := by
  cases o with
  | none => exact SimO.none _
  | some v => exact SimO.eq h
theorem SimO.mapD (h : Sim N W hx s s') {α : Type} (o : Option α) (f : α → AV) : SimO N W hx (o.map fun v => (f v, s)) (o.map fun v => (f v, s')) := by
  cases o with
  | none => exact SimO.none _
  | some v => exact SimO.eq h

theorem Sim.own (h : Sim N W hx s s') {p : Place} (ho : (Ab.content s p).isOwn = true) : (Ab.content s' p).isOwn = true := by
  rw [h.content (p := p) rfl (by intro e; rw [e] at ho; cases ho)]; exact ho

theorem Sim.slice (h : Sim N W hx s s') {t : TypeId} {x : Operand} {lo hi mx : Option Operand} (h1 : ∀ t ∈ tmpOf x, t ∉ N) (h2 : ∀ y, lo = some y → ∀ t ∈ tmpOf y, t ∉ N) (h3 : ∀ y, hi = some y → ∀ t ∈ tmpOf y, t ∉ N) :
    sliceOp E t x lo hi mx s' = sliceOp E t x lo hi mx s := by
  have hm : ∀ (o : Option Operand), (∀ y, o = some y → ∀ t ∈ tmpOf y, t ∉ N) → o.map (Ab.ev E s') = o.map (Ab.ev E s) := by
    intro o ho
    cases o with
    | none => rfl
    | some y => simp only [Option.map_some]; rw [h.ev (ho y rfl)]
  unfold sliceOp
  rw [h.plainC h1, hm lo h2, hm hi h3]

theorem Sim.indexAddr (h : Sim N W hx s s') {t : TypeId} {a : AV} {n : Int} {v : AV} (hv : indexAddrOp E t a n s = some v) : indexAddrOp E t a n s' = some v := by
  unfold indexAddrOp at hv ⊢
  split at hv
  · rename_i e p hu
    split at hv
    · rename_i xs l sz hc hsz
      simp only [h.content hc (by simp), hsz]
      exact hv
    · cases hv
  · exact hv
  · exact hv
  · exact hv
  · cases hv

theorem Sim.step (h : Sim N W hx s s') (fl : Flag) (q : Bool) (op : Op) (ht : ∀ t ∈ opTmps op, t ∉ N) (hnew : hx = [] ∨ noNew op = true) : SimO N W hx (stepOp E fl q op s) (stepOp E fl q op s') := by
  have hop : ∀ x ∈ op.operands.toList, ∀ t ∈ tmpOf x, t ∉ N := fun x hx1 t ht1 => ht t (mem_tmps hx1 ht1)
  cases op with
  | move x =>
    have hx1 := hop x (by simp [Op.operands])
    cases x with
    | tmp t => exact h.readPlace fl q (.slot t)
    | _ => simp only [stepOp]; rw [h.ev hx1]; exact SimO.const h _
  | assign x =>
    have hx1 := hop x (by simp [Op.operands])
    simp only [stepOp]; rw [h.ev hx1]; exact SimO.const h _
  | pick c a b =>
    have hc := hop c (by simp [Op.operands])
    have ha := hop a (by simp [Op.operands])
    have hb := hop b (by simp [Op.operands])
    simp only [stepOp]
    rw [h.ev hc]
    split
    · rename_i t _
      cases t with
      | true => simp only [if_true]; rw [h.plainC ha]; exact SimO.mapD h _ _
      | false => simp only [Bool.false_eq_true, if_false]; rw [h.plainC hb]; exact SimO.mapD h _ _
    · exact SimO.none _
  | alloc e =>
    rcases hnew with rfl | hn
    · simp only [stepOp]
      have hh : s'.heap = s.heap := by rw [h.heap, List.append_nil]
      rw [hh]
      cases tyZero E.P e with
      | none => exact SimO.none _
      | some z =>
        intro v s1 hr
        simp only [Option.map_some, Option.some.injEq, Prod.mk.injEq] at hr ⊢
        obtain ⟨rfl, rfl⟩ := hr
        exact ⟨_, ⟨rfl, rfl⟩, h.out, h.inn, h.calm, by simp [hh]⟩
    · cases hn
  | box e x =>
    have hx1 := hop x (by simp [Op.operands])
    rcases hnew with rfl | hn
    · simp only [stepOp]
      have hh : s'.heap = s.heap := by rw [h.heap, List.append_nil]
      rw [hh, h.ev hx1]
      split
      · split
        · intro v s1 hr
          simp only [Option.some.injEq, Prod.mk.injEq] at hr ⊢
          obtain ⟨rfl, rfl⟩ := hr
          exact ⟨_, ⟨rfl, rfl⟩, h.out, h.inn, h.calm, by simp [hh]⟩
        · exact SimO.none _
      · exact SimO.none _
    · cases hn
  | build t parts =>
    simp only [stepOp]
    rw [Sim.parts h (fun p hp => hop p.2 (by simp only [Op.operands, List.toList_toArray]; exact List.mem_map.2 ⟨p, hp, rfl⟩))]
    split
    · split
      · exact SimO.mapD h _ _
      · exact SimO.none _
    · exact SimO.none _
  | buildSlice t n parts =>
    simp only [stepOp]
    rw [h.plainsC (fun x hx1 => hop x (by simpa [Op.operands] using hx1))]
    split
    · split
      · exact SimO.eq h
      · exact SimO.none _
    · exact SimO.none _
  | load t a =>
    have ha := hop a (by simp [Op.operands])
    simp only [stepOp]
    rw [h.ev ha]
    exact h.load fl q t _
  | nilCheck x =>
    have hx1 := hop x (by simp [Op.operands])
    simp only [stepOp]
    rw [h.ev hx1]
    split
    · exact SimO.eq h
    · exact SimO.eq h
    · intro v s1 hr
      split at hr
      · rename_i ho
        rw [if_pos (h.own ho)]
        exact SimO.eq h v s1 hr
      · cases hr
    · exact SimO.eq h
    · exact SimO.none _
  | binOp o t x y t' =>
    have hx1 := hop x (by simp [Op.operands])
    have hy1 := hop y (by simp [Op.operands])
    simp only [stepOp]
    rw [h.plainC hx1, h.plainC hy1]
    split
    · exact SimO.mapD h _ _
    · exact SimO.none _
  | unOp o t x =>
    have hx1 := hop x (by simp [Op.operands])
    simp only [stepOp]
    rw [h.plainC hx1]
    split
    · exact SimO.mapD h _ _
    · exact SimO.none _
  | convert src dst x =>
    have hx1 := hop x (by simp [Op.operands])
    simp only [stepOp]
    rw [h.plainC hx1]
    split
    · exact SimO.eq h
    · exact SimO.eq h
    · exact SimO.none _
  | makeSlice t l c =>
    have hl := hop l (by simp [Op.operands])
    have hc := hop c (by simp [Op.operands])
    simp only [stepOp]
    rw [h.plainC hl, h.plainC hc]
    split
    · split
      · split
        · exact SimO.eq h
        · exact SimO.none _
      · exact SimO.none _
    · exact SimO.none _
  | slice t x lo hi mx =>
    simp only [stepOp]
    rw [h.slice (hop x (by simp [Op.operands])) (fun y e => hop y (by simp [Op.operands, e])) (fun y e => hop y (by simp [Op.operands, e]))]
    exact SimO.const h _
  | fieldAddr t x i =>
    have hx1 := hop x (by simp [Op.operands])
    simp only [stepOp]
    rw [h.ev hx1]
    split
    · split
      · split
        · exact SimO.eq h
        · exact SimO.eq h
        · intro v s1 hr
          split at hr
          · rename_i ho
            rw [if_pos (h.own ho)]
            exact SimO.eq h v s1 hr
          · cases hr
        · exact SimO.none _
      · exact SimO.none _
    · exact SimO.none _
  | field t x i =>
    have hx1 := hop x (by simp [Op.operands])
    simp only [stepOp]
    rw [h.plainC hx1]
    split
    · exact SimO.mapD h _ _
    · exact SimO.none _
  | indexAddr t x i =>
    have hx1 := hop x (by simp [Op.operands])
    have hi := hop i (by simp [Op.operands])
    simp only [stepOp]
    rw [h.ev hi, h.ev hx1]
    split
    · intro v s1 hr
      rename_i n hn
      cases hq : indexAddrOp E t (Ab.ev E s x) n s with
      | none => rw [hq] at hr; cases hr
      | some w =>
        rw [hq] at hr
        rw [h.indexAddr hq]
        exact SimO.eq h v s1 hr
    · exact SimO.none _
  | index t x i =>
    have hx1 := hop x (by simp [Op.operands])
    have hi := hop i (by simp [Op.operands])
    simp only [stepOp]
    rw [h.ev hi, h.plainC hx1]
    split
    · exact SimO.mapD h _ _
    · exact SimO.none _
  | extract x i =>
    cases x with
    | tmp t =>
      have ht' : get s'.env t = get s.env t := h.out t (hop (.tmp t) (by simp [Op.operands]) t (by simp [tmpOf]))
      simp only [stepOp]
      rw [ht']
      split
      · split
        · exact SimO.eq h
        · exact SimO.eq h
        · exact SimO.none _
      · exact SimO.none _
    | _ => exact SimO.none _
  | makeFunc fn first caps =>
    cases fn with
    | func f =>
      simp only [stepOp]
      split
      · rw [h.caps (fun x hx1 => hop x (by simp only [Op.operands, Array.toList_append]; exact List.mem_append_right _ hx1))]
        exact SimO.mapD h _ _
      · exact SimO.none _
    | _ => exact SimO.none _
  | call c =>
    obtain ⟨callee, args, ts⟩ := c
    cases callee with
    | builtin b =>
      have hargs : ∀ x ∈ args.toList, ∀ t ∈ tmpOf x, t ∉ N := fun x hx1 => hop x (by simpa [Op.operands, Call.operands] using hx1)
      simp only [stepOp]
      unfold builtinOp
      split
      · rename_i x t h1 h2
        have hx1 := hargs x (by rw [h1]; simp)
        rw [h.ev hx1]
        intro v s1 hr
        cases hl : lenA E t (Ab.ev E s x) s with
        | none => rw [hl] at hr; cases hr
        | some n =>
          rw [hl] at hr
          rw [h.len hl]
          exact SimO.eq h v s1 hr
      · rename_i x y h1
        rw [h.plainC (hargs x (by rw [h1]; simp)), h.plainC (hargs y (by rw [h1]; simp))]
        split
        · exact SimO.eq h
        · exact SimO.none _
      · rename_i x y h1
        rw [h.plainC (hargs x (by rw [h1]; simp)), h.plainC (hargs y (by rw [h1]; simp))]
        split
        · exact SimO.eq h
        · exact SimO.none _
      · rename_i x y t u h1 h2
        split
        · exact h.append q t (hargs x (by rw [h1]; simp)) (hargs y (by rw [h1]; simp))
        · exact SimO.none _
      · exact SimO.none _
    | _ => exact SimO.none _
  | _ => exact SimO.none _

/-! ### Calls -/
theorem addNew_keep {o : Nat} : ∀ (l seen : List Nat), o ∈ seen → o ∈ addNew seen l
  | [], _, h => h
  | p :: r, seen, h => by
    simp only [addNew]
    refine addNew_keep r _ ?_
    split
    · exact h
    · exact List.mem_append_left _ h
theorem reach_mem {h : Heap} : ∀ {n : Nat} {seen objs : List Nat}, reach h n seen = some objs → ∀ o ∈ seen, o ∈ objs
  | 0, _, _, hr => by simp [reach] at hr
  | n + 1, seen, objs, hr => by
    simp only [reach] at hr
    split at hr
    · simp only [Option.some.injEq] at hr; subst hr; exact fun o ho => ho
    · exact fun o ho => reach_mem hr o (addNew_keep _ _ ho)
theorem reach_ext {h hx : Heap} : ∀ {n m : Nat} {seen objs : List Nat}, reach h n seen = some objs → n ≤ m → (∀ o ∈ objs, o < h.length) → reach (h ++ hx) m seen = some objs
  | 0, _, _, _, hr, _, _ => by simp [reach] at hr
  | n + 1, 0, _, _, _, hm, _ => by omega
  | n + 1, m + 1, seen, objs, hr, hm, hl => by
    have hs := reach_mem hr
    have he : (seen.flatMap fun o => (((h ++ hx)[o]?).getD []).flatMap ptrsOf) = seen.flatMap fun o => ((h[o]?).getD []).flatMap ptrsOf := by
      clear hr
      induction seen with
      | nil => rfl
      | cons o r ih =>
        simp only [List.flatMap_cons]
        rw [List.getElem?_append_left (hl o (hs o (by simp))), ih (fun p hp => hs p (by simp [hp]))]
    simp only [reach, he] at hr ⊢
    split at hr
    · rename_i hc; rw [if_pos hc]; exact hr
    · rename_i hc; rw [if_neg hc]; exact reach_ext hr (by omega) hl
theorem cellsAt_lt {h : Heap} : ∀ {l : List Nat} {hs : Heap}, cellsAt h l = some hs → ∀ o ∈ l, o < h.length
  | [], _, _ => by simp
  | o :: r, hs, hc => by
    simp only [cellsAt] at hc
    split at hc
    · rename_i cs hs' h1 h2
      intro p hp
      rcases List.mem_cons.1 hp with rfl | hp
      · exact (List.getElem?_eq_some_iff.1 h1).1
      · exact cellsAt_lt h2 p hp
    · cases hc
theorem cellsAt_ext {h hx : Heap} : ∀ {l : List Nat} {hs : Heap}, cellsAt h l = some hs → cellsAt (h ++ hx) l = some hs
  | [], _, hc => hc
  | o :: r, hs, hc => by
    have hlt := cellsAt_lt hc o (by simp)
    simp only [cellsAt] at hc ⊢
    rw [List.getElem?_append_left hlt]
    split at hc
    · rename_i cs hs' h1 h2
      rw [h1, cellsAt_ext h2]; exact hc
    · cases hc

/-- Where a result's values lead. -/
def ptrsRes : AV → List Nat
  | .tup us => us.flatMap ptrsOf
  | v => ptrsOf v
theorem ptrsRes_pack (vs : List AV) (hn : ∀ v ∈ vs, ∀ us, v ≠ .tup us) : ptrsRes (packRes vs) = vs.flatMap ptrsOf := by
  match vs, hn with
  | [], _ => rfl
  | [v], hn =>
    simp only [packRes, List.flatMap_cons, List.flatMap_nil, List.append_nil]
    cases v with
    | tup us => exact absurd rfl (hn _ (by simp) us)
    | _ => rfl
  | v :: w :: r, _ => rfl
theorem outOf_tup {v w : AV} (h : outOf v = some w) : ∀ us, w ≠ .tup us := by
  rintro us rfl
  unfold outOf at h
  split at h
  · cases h
  · cases h
  · rename_i v' _ _
    cases hf : freeze v with
    | none => rw [hf] at h; cases h
    | some d => rw [hf] at h; cases h
theorem resultOf_tup {P : Program} {s : St} {x : ResultVar} {w : AV} (h : resultOf P s x = some w) : ∀ us, w ≠ .tup us := by
  cases x with
  | tmp t => exact outOf_tup h
  | cell a t =>
    simp only [resultOf] at h
    split at h
    · split at h
      · split at h
        · rintro us rfl
          simp only [Option.map_eq_some_iff] at h
          obtain ⟨d, _, hd⟩ := h
          cases hd
        · cases h
      · split at h
        · exact outOf_tup h
        · cases h
      · cases h
    · cases h
theorem resultsOf_tup {P : Program} {s : St} : ∀ {l : List ResultVar} {vs : List AV}, resultsOf P s l = some vs → ∀ v ∈ vs, ∀ us, v ≠ .tup us
  | [], vs, h => by simp only [resultsOf, Option.some.injEq] at h; subst h; simp
  | x :: l, vs, h => by
    simp only [resultsOf] at h
    split at h
    · rename_i v vs' h1 h2
      simp only [Option.some.injEq] at h
      subst h
      intro u hu
      rcases List.mem_cons.1 hu with rfl | hu
      · exact resultOf_tup h1
      · exact resultsOf_tup h2 u hu
    · cases h
theorem leave_ptrs {P : Program} {fn : Func} {k : Nat} {s : St} {v : AV} {h' : Heap} (h : leave P fn k s = some (v, h')) :
    (∀ p ∈ ptrsRes v, p < h'.length) ∧ ∀ cs ∈ h', ∀ c ∈ cs, ∀ p ∈ ptrsOf c, p < h'.length := by
  unfold leave at h
  cases hvs : resultsOf P s fn.results.toList with
  | none => rw [hvs] at h; cases h
  | some vs =>
    simp only [hvs] at h
    have ht := ptrsRes_pack vs (resultsOf_tup hvs)
    split at h
    · rename_i hc
      split at h
      · rename_i hf
        simp only [Option.some.injEq, Prod.mk.injEq] at h
        obtain ⟨rfl, rfl⟩ := h
        simp only [Bool.and_eq_true, decide_eq_true_eq] at hf
        have hl : (s.heap.take k).length = k := by simp; omega
        simp only [List.all_append, Bool.and_eq_true, List.all_eq_true, decide_eq_true_eq] at hc
        rw [hl, ht]
        exact ⟨hc.1, fun cs hcs c hcm p hp => hc.2 p (List.mem_flatMap.2 ⟨cs, hcs, List.mem_flatMap.2 ⟨c, hcm, hp⟩⟩)⟩
      · cases h
    · split at h
      · rename_i hf
        simp only [Option.some.injEq, Prod.mk.injEq] at h
        obtain ⟨rfl, rfl⟩ := h
        simp only [Bool.and_eq_true, List.all_append, List.all_eq_true, decide_eq_true_eq] at hf
        rw [ht]
        exact ⟨hf.2.1, fun cs hcs c hcm p hp => hf.2.2 p (List.mem_flatMap.2 ⟨cs, hcs, List.mem_flatMap.2 ⟨c, hcm, hp⟩⟩)⟩
      · cases h
theorem call_ptrs {n : Nat} {f : FuncId} {vs : List AV} {hp h' : Heap} {v : AV} (h : call E n f vs hp = some (v, h')) :
    (∀ p ∈ ptrsRes v, p < h'.length) ∧ ∀ cs ∈ h', ∀ c ∈ cs, ∀ p ∈ ptrsOf c, p < h'.length := by
  cases n with
  | zero => simp [call] at h
  | succ n =>
    simp only [call] at h
    split at h
    · split at h
      · split at h
        · split at h
          · split at h
            · exact leave_ptrs h
            · exact leave_ptrs h
            · cases h
          · cases h
        · cases h
      · cases h
    · cases h

theorem ren_congr {ρ ρ' : Nat → Nat} {c : AV} (h : ∀ p ∈ ptrsOf c, ρ p = ρ' p) : renAV ρ c = renAV ρ' c := by
  cases c with
  | ptr o a => simp only [renAV]; rw [h o (by simp [ptrsOf])]
  | fn f cs =>
    simp only [renAV]
    congr 1
    apply List.map_congr_left
    rintro ⟨o, a⟩ hm
    rw [h o (by simp only [ptrsOf]; exact List.mem_map.2 ⟨_, hm, rfl⟩)]
  | _ => rfl
theorem renAll_congr {ρ ρ' : Nat → Nat} {v : AV} (h : ∀ p ∈ ptrsRes v, ρ p = ρ' p) : renAll ρ v = renAll ρ' v := by
  have key : ∀ c : AV, (∀ us, c ≠ .tup us) → ptrsRes c = ptrsOf c ∧ ∀ ρ, renAll ρ c = renAV ρ c := by
    intro c hc
    cases c with
    | tup us => exact absurd rfl (hc us)
    | _ => exact ⟨rfl, fun _ => rfl⟩
  by_cases ht : ∃ us, v = .tup us
  · obtain ⟨us, rfl⟩ := ht
    simp only [renAll]
    congr 1
    apply List.map_congr_left
    intro c hc
    exact ren_congr (fun p hp => h p (List.mem_flatMap.2 ⟨c, hc, hp⟩))
  · obtain ⟨h1, h2⟩ := key v (fun us e => ht ⟨us, e⟩)
    rw [h2, h2]
    exact ren_congr (fun p hp => h p (by rw [h1]; exact hp))
theorem backTo_congr {objs : List Nat} {a b j : Nat} (h : j < objs.length) : backTo objs a j = backTo objs b j := by
  simp only [backTo, List.getElem?_eq_getElem h]
theorem writeBack_ext : ∀ (os : List Nat) (h hx r : Heap), (∀ o ∈ os, o < h.length) → writeBack (h ++ hx) os r = writeBack h os r ++ hx
  | [], h, hx, r, _ => by cases r <;> rfl
  | o :: os, h, hx, [], _ => rfl
  | o :: os, h, hx, cs :: r, hl => by
    simp only [writeBack]
    rw [List.set_append_left _ _ (hl o (by simp)), writeBack_ext os (h.set o cs) hx r (fun p hp => by simpa using hl p (by simp [hp]))]

theorem hits_calm {objs : List Nat} {v : AV} (h : v.placed = false) : hits objs v = false := by simp [hits, h]
theorem Sim.callA (h : Sim N W hx s s') {r : Rule} (hd : r.draws = true) {n : Nat} {f : FuncId} {vs : List AV} {dst : Option Nat} (hdst : ∀ t, dst = some t → t ∉ N) :
    SimS N W hx (Ab.callA E r n f vs dst s) (Ab.callA E r n f vs dst s') := by
  intro s1 hr
  cases n with
  | zero => simp [Ab.callA] at hr
  | succ n =>
    obtain ⟨objs, hs, v, h', h1, h2, h3, h4, h5, rfl⟩ := callA_spec hr
    have hlt := cellsAt_lt h3
    have h1' : reach s'.heap (s'.heap.length + 1) (addNew [] (vs.flatMap ptrsOf)) = some objs := by
      rw [h.heap]; exact reach_ext h1 (by simp) hlt
    have h3' : cellsAt s'.heap objs = some hs := by rw [h.heap]; exact cellsAt_ext h3
    have hall : (!r.draws || objs.all (fun o => !above r.mode o)) = true := by
      simp only [hd, Bool.not_true, Bool.false_or, List.all_eq_true]
      exact fun o ho => by rw [h2 hd o ho]; rfl
    have hle := h5 hd
    have h7 : (r.draws && decide (objs.length < h'.length)) = false := by simp only [hd, Bool.true_and, decide_eq_false_iff_not]; omega
    obtain ⟨p1, p2⟩ := call_ptrs h4
    have hb : ∀ p, p < h'.length → backTo objs s'.heap.length p = backTo objs s.heap.length p := fun p hp => backTo_congr (by omega)
    refine ⟨St.put (backIn s' objs h') dst (renAll (backTo objs s'.heap.length) v), ?_, ?_⟩
    · simp only [Ab.callA, h1', hall, if_true, h3', h4, h7, Bool.false_eq_true, if_false]
    · rw [renAll_congr (fun p hp => hb p (p1 p hp))]
      refine Sim.put ?_ hdst _
      have hmap : (h'.map fun cs => cs.map (renAV (backTo objs s'.heap.length))) = h'.map fun cs => cs.map (renAV (backTo objs s.heap.length)) := by
        apply List.map_congr_left
        intro cs hcs
        apply List.map_congr_left
        intro c hc
        exact ren_congr (fun p hp => hb p (p2 cs hcs c hc p hp))
      have hdrop : h'.drop objs.length = [] := List.drop_eq_nil_of_le hle
      refine ⟨fun u hu => ?_, fun u hu => ?_, h.calm, ?_⟩
      · show get (killObjs objs s'.env) u = get (killObjs objs s.env) u
        rw [get_killObjs, get_killObjs, h.out u hu]
      · show get (killObjs objs s.env) u = .undef ∧ get (killObjs objs s'.env) u = W u
        obtain ⟨e1, e2⟩ := h.inn u hu
        rw [get_killObjs, get_killObjs, e1, e2, hits_calm (h.calm u hu).1]
        exact ⟨by split <;> rfl, by simp⟩
      · simp only [backIn, hmap, hdrop, List.map_nil, List.append_nil]
        rw [h.heap, writeBack_ext objs s.heap hx _ hlt]

/-- All temporaries that an operation names. -/
def namesOf (ops : Array Oper) (o : Oper) : List Nat :=
  o.dst.toList ++ (opTmps o.op ++ match o.guard with | some (j, _) => (match ops[j]? with | some p => p.dst.toList | none => []) | none => [])

theorem Sim.guard (h : Sim N W hx s s') {ops : Array Oper} {o : Oper} (hn : ∀ t ∈ namesOf ops o, t ∉ N) : guardOf ops s' o = guardOf ops s o := by
  unfold guardOf
  cases hg : o.guard with
  | none => rfl
  | some p =>
    obtain ⟨j, want⟩ := p
    simp only
    cases hj : ops[j]? with
    | none => rfl
    | some q =>
      simp only [Option.bind_some]
      cases hq : q.dst with
      | none => rfl
      | some t =>
        have : t ∉ N := hn t (by simp [namesOf, hg, hj, hq])
        simp only [Option.map_some, h.out t this]

theorem usedUp_names (op : Op) : ∀ t ∈ usedUp op, t ∈ opTmps op := by
  intro t ht
  unfold usedUp at ht
  split at ht
  · cases ht
  · exact mem_tmps (by simp [Op.operands]) ht
  · exact mem_tmps (by simp [Op.operands]) ht
  · exact mem_tmps (by simp [Op.operands]) ht
  · obtain ⟨p, hp, hpt⟩ := List.mem_flatMap.1 ht
    exact mem_tmps (by simp only [Op.operands, List.toList_toArray]; exact List.mem_map.2 ⟨p, hp, rfl⟩) hpt
  · split at ht
    · rename_i x r hx
      exact mem_tmps (by simp [Op.operands, Call.operands, hx]) ht
    · cases ht
  · cases ht

theorem Sim.reads (h : Sim N W hx s s') {r : Rule} {op : Op} (ht : ∀ t ∈ opTmps op, t ∉ N) : readsOk E r s' op = readsOk E r s op := by
  unfold readsOk
  congr 1
  cases op with
  | load t x => simp only; rw [h.ev (fun t ht1 => ht t (mem_tmps (by simp [Op.operands]) ht1))]
  | _ => rfl

theorem Sim.runOp (h : Sim N W hx s s') {r : Rule} (hd : r.draws = true) {n : Nat} {f : FuncId} {ops : Array Oper} {o : Oper} (hn : ∀ t ∈ namesOf ops o, t ∉ N) (hnew : hx = [] ∨ noNew o.op = true) :
    SimS N W hx (Ab.runOp E f r ops n o s) (Ab.runOp E f r ops n o s') := by
  intro s1 hr
  cases n with
  | zero => simp [Ab.runOp] at hr
  | succ n =>
    have hdst : ∀ t, o.dst = some t → t ∉ N := fun t e => hn t (by simp [namesOf, e])
    have hop : ∀ t ∈ opTmps o.op, t ∉ N := fun t ht => hn t (by simp [namesOf, ht])
    simp only [Ab.runOp] at hr ⊢
    rw [h.guard hn]
    cases hg : guardOf ops s o with
    | none => simp [hg] at hr
    | some b =>
      cases b with
      | false =>
        simp only [hg, Option.some.injEq] at hr ⊢
        subst hr
        exact ⟨_, rfl, h.put hdst _⟩
      | true =>
        simp only [hg] at hr ⊢
        split at hr
        · rename_i t a x ho
          have hsto : storesOk E (storeRule r ops o) s' a = storesOk E (storeRule r ops o) s a := by
            unfold storesOk
            rw [h.ev (fun u hu => hop u (by rw [ho]; exact mem_tmps (by simp [Op.operands]) hu))]
          rw [hsto]
          split at hr
          · rename_i hdn
            rw [if_pos hdn]
            exact h.store t (fun u hu => hop u (by rw [ho]; exact mem_tmps (by simp [Op.operands]) hu)) (fun u hu => hop u (by rw [ho]; exact mem_tmps (by simp [Op.operands]) hu)) s1 hr
          · cases hr
        · rename_i g args ts ho
          have hargs : ∀ x ∈ args.toList, ∀ t ∈ tmpOf x, t ∉ N := fun x hx1 t ht1 => hop t (by rw [ho]; exact mem_tmps (by simp [Op.operands, Call.operands, hx1]) ht1)
          rw [h.ev (fun t ht1 => hop t (by rw [ho]; exact mem_tmps (by simp [Op.operands, Call.operands]) ht1)), h.args hargs]
          split at hr
          · exact h.callA hd hdst s1 hr
          · cases hr
        · rw [h.reads hop]
          split at hr
          · rename_i hro
            rw [if_pos hro]
            cases hst : stepOp E (E.an.flag f (o.dst.getD 0)) (r.draws && !opWrites ops o.op) o.op s with
            | none => rw [hst] at hr; cases hr
            | some q =>
              obtain ⟨v, s2⟩ := q
              obtain ⟨s3, h3, h4⟩ := h.step _ _ o.op hop hnew v s2 hst
              simp only [hst, Option.some.injEq] at hr
              subst hr
              rw [h3]
              exact ⟨_, rfl, (h4.del _ (fun t ht => hop t (usedUp_names _ t ht))).put hdst _⟩
          · cases hr
end Go.Ab
