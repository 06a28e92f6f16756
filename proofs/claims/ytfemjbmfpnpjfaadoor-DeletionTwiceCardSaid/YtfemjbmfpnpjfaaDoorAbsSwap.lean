/- In a region that draws its order, what makes something new may come first. -/
import Derived.Test.YtfemjbmfpnpjfaaDoorAbsFrame
namespace Go.Ab

variable {E : Env0} {s s1 : St}

/-- Neither owning nor speaking of a place. -/
def AV.calm (v : AV) : Bool := !v.placed && !v.isOwn
/-- A temporary that is not named stays, unless it speaks of a place or owns; and then it is not plain. -/
structure Stays (s s1 : St) (T : List Nat) : Prop where
  env : ∀ t, t ∉ T → get s1.env t = get s.env t ∨ ((get s.env t).calm = false ∧ ∀ a, get s1.env t ≠ .d a)
theorem Stays.refl (s : St) (T : List Nat) : Stays s s T := ⟨fun _ _ => .inl rfl⟩
theorem Stays.trans {s2 : St} {T U : List Nat} (h : Stays s s1 T) (h' : Stays s1 s2 U) : Stays s s2 (T ++ U) :=
  ⟨fun t ht => by
    have h1 := h.env t (fun hm => ht (List.mem_append_left _ hm))
    have h2 := h'.env t (fun hm => ht (List.mem_append_right _ hm))
    rcases h1 with h1 | ⟨h1, h3⟩
    · rw [h1] at h2; exact h2
    · rcases h2 with h2 | ⟨_, h4⟩
      · exact .inr ⟨h1, fun a => by rw [h2]; exact h3 a⟩
      · exact .inr ⟨h1, h4⟩⟩
theorem Stays.sub {T U : List Nat} (h : Stays s s1 T) (hs : ∀ t ∈ T, t ∈ U) : Stays s s1 U := ⟨fun t ht => h.env t (fun hm => ht (hs t hm))⟩
theorem Stays.calm {T : List Nat} (h : Stays s s1 T) {t : Nat} (ht : t ∉ T) (hc : (get s.env t).calm = true) : get s1.env t = get s.env t := by
  rcases h.env t ht with e | ⟨e, _⟩
  · exact e
  · rw [hc] at e; cases e
theorem Stays.back {T : List Nat} (h : Stays s s1 T) {t : Nat} (ht : t ∉ T) {a : D} (hd : get s1.env t = .d a) : get s.env t = .d a := by
  rcases h.env t ht with e | ⟨_, e⟩
  · rw [← e]; exact hd
  · exact absurd hd (e a)
theorem calm_placed {v : AV} (h : v.placed = true) : v.calm = false := by simp [AV.calm, h]
theorem calm_own {v : AV} (h : v.isOwn = true) : v.calm = false := by simp [AV.calm, h]
theorem stays_putE (s : St) (t : Nat) (v : AV) : Stays s { s with env := putE s.env t v } [t] :=
  ⟨fun u hu => by
    have hne : t ≠ u := fun e => hu (by simp [e])
    show get (putE s.env t v) u = _ ∨ (_ ∧ ∀ a, get (putE s.env t v) u ≠ .d a)
    rw [get_putE, if_neg hne]
    split
    · rename_i hc
      simp only [Bool.and_eq_true] at hc
      exact .inr ⟨calm_placed (sitsAt_placed hc.2), by simp⟩
    · exact .inl rfl⟩
theorem stays_put (s : St) (d : Option Nat) (v : AV) : Stays s (s.put d v) d.toList := by
  cases d with
  | none => exact Stays.refl _ _
  | some t => exact stays_putE s t v
theorem stays_del : ∀ (l : List Nat) (s : St), Stays s (s.del l) l
  | [], s => Stays.refl s []
  | t :: r, s => ((stays_putE s t .undef).trans (stays_del r _)).sub (by simp)
theorem stays_kill (s : St) (hp : Heap) : Stays s { env := killPlaced s.env, heap := hp } [] :=
  ⟨fun u _ => by
    show get (killPlaced s.env) u = _ ∨ (_ ∧ ∀ a, get (killPlaced s.env) u ≠ .d a)
    rw [get_killPlaced]
    split
    · rename_i hc; exact .inr ⟨calm_placed hc, by simp⟩
    · exact .inl rfl⟩
theorem stays_heap (s : St) (hp : Heap) : Stays s { s with heap := hp } [] := ⟨fun _ _ => .inl rfl⟩
theorem stays_lendPlace {p : Place} {xs : List D} {l : Bool} (hc : content s p = .own xs l) {w : AV} (hw : ∀ a, w ≠ .d a) : Stays s (lendPlace s p w) [] := by
  cases p with
  | slot t =>
    refine ⟨fun u _ => ?_⟩
    show get (setE s.env t w) u = _ ∨ (_ ∧ ∀ a, get (setE s.env t w) u ≠ .d a)
    rw [get_setE]
    split
    · rename_i he
      subst he
      have : get s.env t = .own xs l := hc
      exact .inr ⟨by rw [this]; rfl, hw⟩
    · exact .inl rfl
  | cell o off => exact stays_heap s _
theorem stays_setPlace {p : Place} {xs : List D} {l : Bool} (hc : content s p = .own xs l) : Stays s (setPlace s p .undef) [] := by
  cases p with
  | slot t =>
    refine ⟨fun u _ => ?_⟩
    by_cases hu : u = t
    · subst hu
      have : get s.env u = .own xs l := hc
      refine .inr ⟨by rw [this]; rfl, ?_⟩
      show ∀ a, get (putE s.env u .undef) u ≠ .d a
      rw [get_putE, if_pos rfl]; simp
    · exact (stays_putE s t .undef).env u (by simpa using hu)
  | cell o off => exact stays_kill s _
theorem stays_lendFrom : ∀ (n : Nat) (s : St) (o off : Nat), Stays s (lendFrom s o off n) []
  | 0, s, _, _ => Stays.refl s []
  | n + 1, s, o, off => by
    simp only [lendFrom]
    split
    · rename_i xs hc
      exact (stays_lendPlace (p := .cell o off) (xs := xs) (l := false) hc (by simp)).trans (stays_lendFrom n _ o (off + 1))
    · exact stays_lendFrom n s o (off + 1)
theorem stays_readPlace {fl : Flag} {q : Bool} {p : Place} {v : AV} (hr : readPlace fl q s p = some (v, s1)) : Stays s s1 [] := by
  unfold readPlace at hr
  split at hr
  · rename_i xs l hc
    split at hr
    · cases hr; exact Stays.refl _ _
    · split at hr
      · cases hr; exact Stays.refl _ _
      · split at hr
        · cases hr
        · cases hr; exact stays_lendPlace hc (by simp)
  all_goals first | (cases hr; done) | (cases hr; exact Stays.refl _ _)
theorem stays_load {fl : Flag} {q : Bool} {t : TypeId} {a v : AV} (hr : loadOp E fl q t a s = some (v, s1)) : Stays s s1 [] := by
  unfold loadOp at hr
  split at hr
  · split at hr
    · exact stays_readPlace hr
    · cases hr; exact Stays.refl _ _
    · split at hr
      · cases hr; exact Stays.refl _ _
      · cases hr
    · cases hr
  · split at hr
    · split at hr
      · split at hr
        · split at hr
          · split at hr
            · cases hr; exact Stays.refl _ _
            · split at hr
              · cases hr
              · cases hr; exact stays_lendFrom _ _ _ _
          · cases hr
        · cases hr
      · cases hr
    · split at hr
      · cases hr; exact Stays.refl _ _
      · cases hr
    · split at hr
      · split at hr
        · cases hr; exact Stays.refl _ _
        · cases hr
      · cases hr
    · cases hr
  · cases hr
theorem stays_append {q : Bool} {t : TypeId} {x y : Operand} {v : AV} (hr : appendOp E q t x y s = some (v, s1)) : Stays s s1 [] := by
  unfold appendOp at hr
  split at hr
  · split at hr
    · split at hr
      · split at hr
        · split at hr
          · cases hr; exact Stays.refl _ _
          · cases hr
        · split at hr
          · rename_i xs l hc
            split at hr
            · cases hr; exact stays_setPlace hc
            · cases hr
          · cases hr
        · cases hr
      · cases hr
    · cases hr
  · cases hr
theorem map_same {α : Type} {o : Option α} {f : α → AV × St} {v : AV} (hf : ∀ x, (f x).2 = s) (hr : o.map f = some (v, s1)) : s1 = s := by
  cases o with
  | none => cases hr
  | some x =>
    simp only [Option.map_some, Option.some.injEq] at hr
    have := hf x
    rw [hr] at this; exact this
theorem stays_step {fl : Flag} {q : Bool} {op : Op} {v : AV} (hr : stepOp E fl q op s = some (v, s1)) : Stays s s1 [] := by
  have fin : s1 = s → Stays s s1 [] := by rintro rfl; exact Stays.refl _ _
  cases op with
  | move x =>
    cases x with
    | tmp t => exact stays_readPlace hr
    | _ => simp only [stepOp] at hr; exact fin (map_same (fun _ => rfl) hr)
  | assign x => exact fin (map_same (fun _ => rfl) hr)
  | pick c a b =>
    simp only [stepOp] at hr
    split at hr
    · exact fin (map_same (fun _ => rfl) hr)
    · cases hr
  | alloc e =>
    simp only [stepOp] at hr
    cases hz : tyZero E.P e with
    | none => rw [hz] at hr; cases hr
    | some z => rw [hz] at hr; cases hr; exact stays_heap s _
  | box e x =>
    simp only [stepOp] at hr
    split at hr
    · split at hr
      · cases hr; exact stays_heap s _
      · cases hr
    · cases hr
  | build t parts =>
    simp only [stepOp] at hr
    split at hr
    · split at hr
      · exact fin (map_same (fun _ => rfl) hr)
      · cases hr
    · cases hr
  | buildSlice t n parts =>
    simp only [stepOp] at hr
    split at hr
    · split at hr
      · cases hr; exact Stays.refl _ _
      · cases hr
    · cases hr
  | load t a => exact stays_load hr
  | nilCheck x =>
    simp only [stepOp] at hr
    split at hr
    · cases hr; exact Stays.refl _ _
    · cases hr; exact Stays.refl _ _
    · split at hr
      · cases hr; exact Stays.refl _ _
      · cases hr
    · cases hr; exact Stays.refl _ _
    · cases hr
  | binOp o t x y t' =>
    simp only [stepOp] at hr
    split at hr
    · exact fin (map_same (fun _ => rfl) hr)
    · cases hr
  | unOp o t x =>
    simp only [stepOp] at hr
    split at hr
    · exact fin (map_same (fun _ => rfl) hr)
    · cases hr
  | convert a b x =>
    simp only [stepOp] at hr
    split at hr
    · cases hr; exact Stays.refl _ _
    · cases hr; exact Stays.refl _ _
    · cases hr
  | makeSlice t l c =>
    simp only [stepOp] at hr
    split at hr
    · split at hr
      · split at hr
        · cases hr; exact Stays.refl _ _
        · cases hr
      · cases hr
    · cases hr
  | slice t x lo hi mx => exact fin (map_same (fun _ => rfl) hr)
  | fieldAddr t x i =>
    simp only [stepOp] at hr
    split at hr
    · split at hr
      · split at hr
        · cases hr; exact Stays.refl _ _
        · cases hr; exact Stays.refl _ _
        · split at hr
          · cases hr; exact Stays.refl _ _
          · cases hr
        · cases hr
      · cases hr
    · cases hr
  | field t x i =>
    simp only [stepOp] at hr
    split at hr
    · exact fin (map_same (fun _ => rfl) hr)
    · cases hr
  | indexAddr t x i =>
    simp only [stepOp] at hr
    split at hr
    · exact fin (map_same (fun _ => rfl) hr)
    · cases hr
  | index t x i =>
    simp only [stepOp] at hr
    split at hr
    · exact fin (map_same (fun _ => rfl) hr)
    · cases hr
  | extract x i =>
    cases x with
    | tmp t =>
      simp only [stepOp] at hr
      split at hr
      · split at hr
        · cases hr; exact Stays.refl _ _
        · cases hr; exact Stays.refl _ _
        · cases hr
      · cases hr
    | _ => cases hr
  | makeFunc fn first caps =>
    cases fn with
    | func f =>
      simp only [stepOp] at hr
      split at hr
      · exact fin (map_same (fun _ => rfl) hr)
      · cases hr
    | _ => cases hr
  | call c =>
    obtain ⟨callee, args, ts⟩ := c
    cases callee with
    | builtin b =>
      simp only [stepOp] at hr
      unfold builtinOp at hr
      split at hr
      · exact fin (map_same (fun _ => rfl) hr)
      · split at hr
        · cases hr; exact Stays.refl _ _
        · cases hr
      · split at hr
        · cases hr; exact Stays.refl _ _
        · cases hr
      · split at hr
        · exact stays_append hr
        · cases hr
      · cases hr
    | _ => cases hr
  | _ => cases hr

theorem stays_storeCells {a : AV} {vs : List AV} (hr : storeCellsA a vs s = some s1) : Stays s s1 [] := by
  unfold storeCellsA at hr
  split at hr
  · split at hr
    · split at hr
      · cases hr
        split
        · exact stays_kill s _
        · exact stays_heap s _
      · cases hr
    · cases hr
  · rename_i p i off
    split at hr
    · rename_i xs ds hc hds
      split at hr
      · split at hr
        · cases hr; exact stays_lendPlace hc (by simp)
        · cases hr
      · cases hr
    · cases hr
  · cases hr
theorem stays_store {t : TypeId} {a x : Operand} (hr : storeOp E t a x s = some s1) : Stays s s1 (tmpOf x) := by
  unfold storeOp at hr
  split at hr
  · split at hr
    · exact ((stays_del (tmpOf x) s).trans (stays_storeCells hr)).sub (by simp)
    · cases hr
  · cases hr
theorem stays_callA {r : Rule} {n : Nat} {f : FuncId} {vs : List AV} {dst : Option Nat} (hr : callA E r n f vs dst s = some s1) : Stays s s1 dst.toList := by
  cases n with
  | zero => simp [callA] at hr
  | succ n =>
    obtain ⟨objs, hs, v, h', h1, h2, h3, h4, h5, rfl⟩ := callA_spec hr
    have : Stays s (backIn s objs h') [] := ⟨fun u _ => by
      show get (killObjs objs s.env) u = _ ∨ (_ ∧ ∀ a, get (killObjs objs s.env) u ≠ .d a)
      rw [get_killObjs]
      split
      · rename_i hc
        simp only [hits, Bool.and_eq_true] at hc
        exact .inr ⟨calm_placed hc.1, by simp⟩
      · exact .inl rfl⟩
    exact (this.trans (stays_put _ dst _)).sub (by simp)
theorem stays_runOp {r : Rule} {n : Nat} {f : FuncId} {ops : Array Oper} {o : Oper} (hr : runOp E f r ops n o s = some s1) : Stays s s1 (namesOf ops o) := by
  have hd : ∀ t ∈ o.dst.toList, t ∈ namesOf ops o := fun t ht => by simp only [namesOf]; exact List.mem_append_left _ ht
  have hop : ∀ t ∈ opTmps o.op, t ∈ namesOf ops o := fun t ht => by simp only [namesOf]; exact List.mem_append_right _ (List.mem_append_left _ ht)
  cases n with
  | zero => simp [runOp] at hr
  | succ n =>
    simp only [runOp] at hr
    cases hg : guardOf ops s o with
    | none => simp [hg] at hr
    | some b =>
      cases b with
      | false =>
        simp only [hg, Option.some.injEq] at hr
        subst hr
        exact (stays_put s o.dst _).sub hd
      | true =>
        simp only [hg] at hr
        split at hr
        · rename_i t a x ho
          split at hr
          · exact (stays_store hr).sub (fun u hu => hop u (by rw [ho]; exact mem_tmps (by simp [Op.operands]) hu))
          · cases hr
        · split at hr
          · exact (stays_callA hr).sub hd
          · cases hr
        · split at hr
          · cases hst : stepOp E (E.an.flag f (o.dst.getD 0)) (r.draws && !opWrites ops o.op) o.op s with
            | none => rw [hst] at hr; cases hr
            | some q =>
              obtain ⟨v, s2⟩ := q
              rw [hst] at hr
              simp only [Option.some.injEq] at hr
              subst hr
              refine (((stays_step hst).trans (stays_del (usedUp o.op) s2)).trans (stays_put _ o.dst _)).sub (fun t ht => ?_)
              simp only [List.nil_append, List.mem_append] at ht
              rcases ht with ht | ht
              · exact hop t (usedUp_names _ t ht)
              · exact hd t ht
          · cases hr

/-! ### How many variables -/
theorem len_lendPlace (s : St) (p : Place) (w : AV) : (lendPlace s p w).heap.length = s.heap.length := by
  cases p with
  | slot t => rfl
  | cell o off => exact length_setCell _ _ _ _
theorem len_setPlace (s : St) (p : Place) (w : AV) : (setPlace s p w).heap.length = s.heap.length := by
  cases p with
  | slot t => rfl
  | cell o off => exact length_setCell _ _ _ _
theorem len_lendFrom : ∀ (n : Nat) (s : St) (o off : Nat), (lendFrom s o off n).heap.length = s.heap.length
  | 0, _, _, _ => rfl
  | n + 1, s, o, off => by
    simp only [lendFrom]
    rw [len_lendFrom n]
    split
    · exact len_lendPlace _ _ _
    · rfl
theorem len_readPlace {fl : Flag} {q : Bool} {p : Place} {v : AV} (hr : readPlace fl q s p = some (v, s1)) : s1.heap.length = s.heap.length := by
  unfold readPlace at hr
  split at hr
  · split at hr
    · cases hr; rfl
    · split at hr
      · cases hr; rfl
      · split at hr
        · cases hr
        · cases hr; exact len_lendPlace _ _ _
  all_goals first | (cases hr; done) | (cases hr; rfl)
theorem len_load {fl : Flag} {q : Bool} {t : TypeId} {a v : AV} (hr : loadOp E fl q t a s = some (v, s1)) : s1.heap.length = s.heap.length := by
  unfold loadOp at hr
  split at hr
  · split at hr
    · exact len_readPlace hr
    · cases hr; rfl
    · split at hr
      · cases hr; rfl
      · cases hr
    · cases hr
  · split at hr
    · split at hr
      · split at hr
        · split at hr
          · split at hr
            · cases hr; rfl
            · split at hr
              · cases hr
              · cases hr; exact len_lendFrom _ _ _ _
          · cases hr
        · cases hr
      · cases hr
    · split at hr
      · cases hr; rfl
      · cases hr
    · split at hr
      · split at hr
        · cases hr; rfl
        · cases hr
      · cases hr
    · cases hr
  · cases hr
theorem len_append {q : Bool} {t : TypeId} {x y : Operand} {v : AV} (hr : appendOp E q t x y s = some (v, s1)) : s1.heap.length = s.heap.length := by
  unfold appendOp at hr
  split at hr
  · split at hr
    · split at hr
      · split at hr
        · split at hr
          · cases hr; rfl
          · cases hr
        · split at hr
          · split at hr
            · cases hr; exact len_setPlace _ _ _
            · cases hr
          · cases hr
        · cases hr
      · cases hr
    · cases hr
  · cases hr
theorem len_step {fl : Flag} {q : Bool} {op : Op} {v : AV} (hn : noNew op = true) (hr : stepOp E fl q op s = some (v, s1)) : s1.heap.length = s.heap.length := by
  have fin : s1 = s → s1.heap.length = s.heap.length := by rintro rfl; rfl
  have same : ∀ {o : Option AV}, o.map (fun v => (v, s)) = some (v, s1) → s1 = s := fun h => map_same (fun _ => rfl) h
  cases op with
  | move x =>
    cases x with
    | tmp t => exact len_readPlace hr
    | _ => simp only [stepOp] at hr; exact fin (map_same (fun _ => rfl) hr)
  | alloc e => cases hn
  | box e x => cases hn
  | load t a => exact len_load hr
  | call c =>
    obtain ⟨callee, args, ts⟩ := c
    cases callee with
    | builtin b =>
      simp only [stepOp] at hr
      unfold builtinOp at hr
      split at hr
      · exact fin (map_same (fun _ => rfl) hr)
      · split at hr
        · cases hr; rfl
        · cases hr
      · split at hr
        · cases hr; rfl
        · cases hr
      · split at hr
        · exact len_append hr
        · cases hr
      · cases hr
    | _ => cases hr
  | extract x i =>
    cases x with
    | tmp t =>
      simp only [stepOp] at hr
      split at hr
      · split at hr
        · cases hr; rfl
        · cases hr; rfl
        · cases hr
      · cases hr
    | _ => cases hr
  | makeFunc fn first caps =>
    cases fn with
    | func f =>
      simp only [stepOp] at hr
      split at hr
      · exact fin (map_same (fun _ => rfl) hr)
      · cases hr
    | _ => cases hr
  | _ =>
    apply fin
    simp only [stepOp] at hr
    repeat' (first | (cases hr; done) | (exact map_same (fun _ => rfl) hr) | (cases hr; rfl) | split at hr)
theorem len_writeBack : ∀ (os : List Nat) (h r : Heap), (writeBack h os r).length = h.length
  | [], h, r => by cases r <;> rfl
  | o :: os, h, [] => rfl
  | o :: os, h, cs :: r => by simp only [writeBack]; rw [len_writeBack os]; simp
theorem len_put (s : St) (d : Option Nat) (v : AV) : (s.put d v).heap = s.heap := by cases d <;> rfl
theorem len_del : ∀ (l : List Nat) (s : St), (s.del l).heap = s.heap
  | [], _ => rfl
  | t :: r, s => by simp only [St.del]; exact len_del r _
theorem len_storeCells {a : AV} {vs : List AV} (hr : storeCellsA a vs s = some s1) : s1.heap.length = s.heap.length := by
  unfold storeCellsA at hr
  split at hr
  · split at hr
    · split at hr
      · cases hr; simp
      · cases hr
    · cases hr
  · split at hr
    · split at hr
      · split at hr
        · cases hr; exact len_lendPlace _ _ _
        · cases hr
      · cases hr
    · cases hr
  · cases hr
theorem len_runOp {r : Rule} (hd : r.draws = true) {n : Nat} {f : FuncId} {ops : Array Oper} {o : Oper} (hn : noNew o.op = true) (hr : runOp E f r ops n o s = some s1) : s1.heap.length = s.heap.length := by
  cases n with
  | zero => simp [runOp] at hr
  | succ n =>
    simp only [runOp] at hr
    cases hg : guardOf ops s o with
    | none => simp [hg] at hr
    | some b =>
      cases b with
      | false =>
        simp only [hg, Option.some.injEq] at hr
        subst hr
        rw [len_put]
      | true =>
        simp only [hg] at hr
        split at hr
        · split at hr
          · unfold storeOp at hr
            split at hr
            · split at hr
              · rw [len_storeCells hr, len_del]
              · cases hr
            · cases hr
          · cases hr
        · split at hr
          · cases n with
            | zero => simp [callA] at hr
            | succ n =>
              obtain ⟨objs, hs, v, h', h1, h2, h3, h4, h5, rfl⟩ := callA_spec hr
              have hle := h5 hd
              rw [len_put]
              simp only [backIn, List.drop_eq_nil_of_le hle, List.map_nil, List.append_nil, len_writeBack]
          · cases hr
        · split at hr
          · cases hst : stepOp E (E.an.flag f (o.dst.getD 0)) (r.draws && !opWrites ops o.op) o.op s with
            | none => rw [hst] at hr; cases hr
            | some q =>
              obtain ⟨v, s2⟩ := q
              rw [hst] at hr
              simp only [Option.some.injEq] at hr
              subst hr
              rw [len_put, len_del, len_step hn hst]
          · cases hr

/-! ### What may come first -/
theorem plainC_back {s : St} {x : Operand} {d : D} (h : ∀ u ∈ tmpOf x, ∀ a, get s1.env u = .d a → get s.env u = .d a) (hp : plainC E s1 x = some d) : plainC E s x = some d := by
  cases x with
  | const v => exact hp
  | tmp t =>
    have hp' : plain (get s1.env t) = some d := hp
    have : get s1.env t = .d d := by
      unfold plain at hp'
      split at hp'
      · rename_i a ha; cases hp'; exact ha
      · cases hp'
    show plain (get s.env t) = some d
    rw [h t (by simp [tmpOf]) d this]; rfl
  | global g => exact hp
  | func f => exact hp
theorem plainsC_back {s : St} : ∀ {l : List Operand} {ds : List D}, (∀ x ∈ l, ∀ u ∈ tmpOf x, ∀ a, get s1.env u = .d a → get s.env u = .d a) → plainsC E s1 l = some ds → plainsC E s l = some ds
  | [], _, _, h => h
  | x :: r, ds, hl, h => by
    simp only [plainsC] at h ⊢
    split at h
    · rename_i a as h1 h2
      rw [plainC_back (hl x (by simp)) h1, plainsC_back (fun y hy => hl y (by simp [hy])) h2]; exact h
    · cases h

theorem front_effect {f : FuncId} {r : Rule} {ops : Array Oper} {n : Nat} {k : Oper} {t : Nat} {s2 : St} (hg : k.guard = none) (hdst : k.dst = some t) (hf : frontOp (E.an.flag f t) k.op = true) (hr : runOp E f r ops n k s1 = some s2) :
    ∃ v hx, v.calm = true ∧ (hx = [] ∨ noNew k.op = false) ∧ s2 = { env := putE s1.env t v, heap := s1.heap ++ hx } ∧
      ∀ s, (∀ u ∈ opTmps k.op, ∀ a, get s1.env u = .d a → get s.env u = .d a) → (hx = [] ∨ s.heap.length = s1.heap.length) → runOp E f r ops n k s = some { env := putE s.env t v, heap := s.heap ++ hx } := by
  cases n with
  | zero => simp [runOp] at hr
  | succ n =>
    have hgo : ∀ s, guardOf ops s k = some true := fun s => by simp only [guardOf, hg]
    -- the operation's own step, without guard or reading
    have key : ∀ (s : St), (∀ g args ts, k.op ≠ .call { callee := .value g, args := args, argTypes := ts }) → (∀ t a x, k.op ≠ .store t a x) → readsOk E (lookRule r ops k) s k.op = true →
        runOp E f r ops (n + 1) k s = match stepOp E (E.an.flag f t) (r.draws && !opWrites ops k.op) k.op s with
          | some (v, s1) => some ((s1.del (usedUp k.op)).put (some t) (keepAs (E.an.flag f t) v)) | none => none := by
      intro s hc hs hro
      simp only [runOp, hgo]
      simp only [hro, if_true, hdst, Option.getD_some]
      generalize stepOp E (E.an.flag f t) (r.draws && !opWrites ops k.op) k.op s = q
      cases q <;> rfl
    cases hop : k.op with
    | alloc e =>
      have hk := fun s => key s (by simp [hop]) (by simp [hop]) (by simp [readsOk, hop])
      simp only [hop, stepOp, usedUp, St.del] at hk
      rw [hk] at hr
      cases hz : tyZero E.P e with
      | none => rw [hz] at hr; cases hr
      | some z =>
        simp only [hz, Option.map_some, Option.some.injEq] at hr
        have hkp : ∀ (fl : Flag) (o : Nat), keepAs fl (.ptr o 0) = .ptr o 0 := fun fl o => by cases fl <;> rfl
        refine ⟨.ptr s1.heap.length 0, [(constAV z).cells], rfl, .inr rfl, ?_, fun s _ hlen => ?_⟩
        · rw [← hr, hkp]; rfl
        · rw [hk, hz]
          simp only [Option.map_some, hkp]
          rcases hlen with e | e
          · cases e
          · rw [e]; rfl
    | buildSlice ty len parts =>
      have hk := fun s => key s (by simp [hop]) (by simp [hop]) (by simp [readsOk, hop])
      simp only [hop, stepOp, usedUp, St.del] at hk
      rw [hop] at hf
      simp only [frontOp, decide_eq_true_eq] at hf
      rw [hk, hf] at hr
      cases he : tyElem E.P ty with
      | none => simp [he] at hr
      | some e =>
        cases hx : plainsC E s1 (parts.toList.map (·.2)) with
        | none => simp [he, hx] at hr
        | some xs =>
          simp only [he, hx] at hr
          split at hr
          · rename_i v s3 hv
            split at hv
            · rename_i hc
              simp only [Option.some.injEq, Prod.mk.injEq] at hv
              obtain ⟨rfl, rfl⟩ := hv
              simp only [Option.some.injEq] at hr
              refine ⟨.d (.list xs), [], rfl, .inl rfl, by rw [← hr]; simp [keepAs, St.put], fun s hs _ => ?_⟩
              have hb := plainsC_back (E := E) (s := s) (fun x hx1 u hu a ha => hs u (mem_tmps (by simpa [Op.operands] using hx1) hu) a ha) hx
              rw [hk, hf]
              simp only [he, hb, hc, and_self, if_true]
              simp [keepAs, St.put]
            · cases hv
          · cases hr
    | call c =>
      obtain ⟨callee, args, ts⟩ := c
      cases callee with
      | builtin b =>
        cases b with
        | append =>
          rw [hop] at hf
          simp only [frontOp, Bool.and_eq_true, decide_eq_true_eq] at hf
          obtain ⟨hf1, hf2⟩ := hf
          split at hf2
          · rename_i c y hargs
            have hk := fun s => key s (by simp [hop]) (by simp [hop]) (by simp [readsOk, hop])
            simp only [hop, stepOp, builtinOp, hargs, usedUp, tmpOf, St.del] at hk
            rw [hk, hf1] at hr
            cases hts : ts.toList with
            | nil => simp [hts] at hr
            | cons t1 r1 =>
              cases r1 with
              | nil => simp [hts] at hr
              | cons t2 r2 =>
                cases r2 with
                | cons t3 r3 => simp [hts] at hr
                | nil =>
                  simp only [hts] at hr hk
                  by_cases h12 : t1 = t2
                  · simp only [h12, if_true] at hr hk
                    cases ha : appendOp E (r.draws && !opWrites ops k.op) t2 (.const c) y s1 with
                    | none => rw [hop] at ha; rw [ha] at hr; cases hr
                    | some q =>
                      obtain ⟨v, s3⟩ := q
                      have hback : ∀ s, (∀ u ∈ opTmps k.op, ∀ a, get s1.env u = .d a → get s.env u = .d a) → ∃ xs l, v = .own xs l ∧ s3 = s1 ∧ appendOp E (r.draws && !opWrites ops k.op) t2 (.const c) y s = some (v, s) := by
                        intro s hs
                        unfold appendOp at ha ⊢
                        cases hy : plainC E s1 y with
                        | none => simp [hy] at ha
                        | some dy =>
                          have hb := plainC_back (E := E) (s := s) (fun u hu a ha => hs u (by rw [hop]; exact mem_tmps (by simp [Op.operands, Call.operands, hargs]) hu) a ha) hy
                          simp only [hy, hb] at ha ⊢
                          split at ha
                          · split at ha
                            · split at ha
                              · rename_i hcond
                                rw [if_pos hcond]
                                have hev : ∀ s', ev E s' (.const c) = constAV c := fun _ => rfl
                                simp only [hev] at ha ⊢
                                split at ha
                                · split at ha
                                  · rename_i hc2
                                    rw [if_pos hc2]
                                    simp only [Option.some.injEq, Prod.mk.injEq] at ha
                                    obtain ⟨rfl, rfl⟩ := ha
                                    exact ⟨_, _, rfl, rfl, rfl⟩
                                  · cases ha
                                · rename_i p hp
                                  exfalso
                                  unfold constAV at hp
                                  split at hp
                                  · cases hp
                                  · unfold constLeaf at hp
                                    split at hp <;> cases hp
                                · cases ha
                              · cases ha
                            · cases ha
                          · cases ha
                      obtain ⟨xs, l, rfl, rfl, _⟩ := hback s1 (fun _ _ _ h => h)
                      rw [hop] at ha
                      rw [ha] at hr
                      simp only [Option.some.injEq] at hr
                      refine ⟨.d (.list xs), [], rfl, .inl rfl, by rw [← hr]; simp [keepAs, St.put], fun s hs _ => ?_⟩
                      obtain ⟨_, _, _, _, hb⟩ := hback s (by rw [hop]; exact hs)
                      rw [hop] at hb
                      rw [hk, hf1, hb]
                      simp [keepAs, St.put]
                  · simp [h12] at hr
          · cases hf2
        | _ => rw [hop] at hf; cases hf
      | _ => rw [hop] at hf; cases hf
    | _ => rw [hop] at hf; cases hf

/-- The same, as far as anybody can see. -/
def Same (s s' : St) : Prop := Sim [] (fun _ => .undef) [] s s'
theorem Same.refl (s : St) : Same s s := ⟨fun _ _ => rfl, fun _ h => absurd h (by simp), fun _ h => absurd h (by simp), by simp⟩
theorem Same.trans {s s' s2 : St} (h : Same s s') (h' : Same s' s2) : Same s s2 :=
  ⟨fun u _ => (h'.out u (by simp)).trans (h.out u (by simp)), fun _ h => absurd h (by simp), fun _ h => absurd h (by simp), by rw [h'.heap, h.heap]; simp⟩

theorem Sim.runOps {N : List Nat} {W : Nat → AV} {hx : Heap} {r : Rule} (hd : r.draws = true) {n : Nat} {f : FuncId} {ops : Array Oper} : ∀ {l : List Oper} {s s' : St}, Sim N W hx s s' → (∀ o ∈ l, ∀ t ∈ namesOf ops o, t ∉ N) → (hx = [] ∨ ∀ o ∈ l, noNew o.op = true) →
    SimS N W hx (Ab.runOps E f r ops n l s) (Ab.runOps E f r ops n l s')
  | [], s, s', h, _, _ => fun s1 hr => by
    rw [runOps_nil, Option.some.injEq] at hr
    subst hr
    exact ⟨s', rfl, h⟩
  | o :: l, s, s', h, hn, hnew => fun s1 hr => by
    rw [runOps_cons] at hr ⊢
    cases h1 : Ab.runOp E f r ops n o s with
    | none => rw [h1] at hr; cases hr
    | some s2 =>
      rw [h1] at hr
      obtain ⟨s3, h3, h4⟩ := h.runOp hd (hn o (by simp)) (hnew.imp id fun e => e o (by simp)) s2 h1
      rw [h3]
      exact Sim.runOps hd h4 (fun p hp => hn p (by simp [hp])) (hnew.imp id fun e p hp => e p (by simp [hp])) s1 hr
theorem stays_runOps {r : Rule} {n : Nat} {f : FuncId} {ops : Array Oper} : ∀ {l : List Oper} {s s1 : St}, Ab.runOps E f r ops n l s = some s1 → Stays s s1 (l.flatMap (namesOf ops))
  | [], s, s1, hr => by
    rw [runOps_nil, Option.some.injEq] at hr
    subst hr; exact Stays.refl _ _
  | o :: l, s, s1, hr => by
    rw [runOps_cons] at hr
    cases h1 : Ab.runOp E f r ops n o s with
    | none => rw [h1] at hr; cases hr
    | some s2 => rw [h1] at hr; exact ((stays_runOp h1).trans (stays_runOps hr)).sub (by simp)
theorem len_runOps {r : Rule} (hd : r.draws = true) {n : Nat} {f : FuncId} {ops : Array Oper} : ∀ {l : List Oper} {s s1 : St}, (∀ o ∈ l, noNew o.op = true) → Ab.runOps E f r ops n l s = some s1 → s1.heap.length = s.heap.length
  | [], s, s1, _, hr => by
    rw [runOps_nil, Option.some.injEq] at hr
    subst hr; rfl
  | o :: l, s, s1, hn, hr => by
    rw [runOps_cons] at hr
    cases h1 : Ab.runOp E f r ops n o s with
    | none => rw [h1] at hr; cases hr
    | some s2 => rw [h1] at hr; rw [len_runOps hd (fun p hp => hn p (by simp [hp])) hr, len_runOp hd (hn o (by simp)) h1]
theorem runOps_append {r : Rule} {n : Nat} {f : FuncId} {ops : Array Oper} : ∀ (l l' : List Oper) (s : St), Ab.runOps E f r ops n (l ++ l') s = match Ab.runOps E f r ops n l s with | some s1 => Ab.runOps E f r ops n l' s1 | none => none
  | [], _, _ => rfl
  | o :: l, l', s => by
    rw [List.cons_append, runOps_cons, runOps_cons]
    cases Ab.runOp E f r ops n o s with
    | none => rfl
    | some s1 => exact runOps_append l l' s1

theorem swap {r : Rule} (hd : r.draws = true) {n : Nat} {f : FuncId} {ops : Array Oper} {pre post : List Oper} {k : Oper} {t : Nat} {s sf : St} (hk : frontDst E.an f k = some t) (hu : get s.env t = .undef)
    (h1 : ∀ x ∈ pre, t ∉ namesOf ops x) (h2 : ∀ x ∈ pre, ∀ u ∈ opTmps k.op, u ∉ namesOf ops x) (h3 : noNew k.op = false → ∀ x ∈ pre, noNew x.op = true)
    (hr : Ab.runOps E f r ops n (pre ++ k :: post) s = some sf) : ∃ sf', Ab.runOps E f r ops n (k :: (pre ++ post)) s = some sf' ∧ Same sf sf' := by
  have hk' : k.guard = none ∧ k.dst = some t ∧ frontOp (E.an.flag f t) k.op = true := by
    unfold frontDst at hk
    split at hk
    · rename_i t' hg hdst
      split at hk
      · rename_i hf; cases hk; exact ⟨hg, hdst, hf⟩
      · cases hk
    · cases hk
  obtain ⟨hg, hdst, hf⟩ := hk'
  rw [runOps_append] at hr
  cases hpre : Ab.runOps E f r ops n pre s with
  | none => rw [hpre] at hr; cases hr
  | some s1 =>
    rw [hpre] at hr
    simp only [runOps_cons] at hr
    cases hks : Ab.runOp E f r ops n k s1 with
    | none => rw [hks] at hr; cases hr
    | some s2 =>
      rw [hks] at hr
      simp only at hr
      obtain ⟨v, hx, hcalm, hnew, hs2, heff⟩ := front_effect hg hdst hf hks
      have hst := stays_runOps hpre
      have hback : ∀ u ∈ opTmps k.op, ∀ a, get s1.env u = .d a → get s.env u = .d a := by
        intro u hu1 a ha
        refine hst.back ?_ ha
        intro hm
        obtain ⟨x, hx1, hx2⟩ := List.mem_flatMap.1 hm
        exact h2 x hx1 u hu1 hx2
      have hks' := heff s hback (by
        rcases hnew with e | e
        · exact .inl e
        · exact .inr (len_runOps hd (h3 e) hpre).symm)
      have hcalm' : v.placed = false ∧ v.isOwn = false := by simpa [AV.calm] using hcalm
      have hsim : Sim [t] (fun _ => v) hx s { env := putE s.env t v, heap := s.heap ++ hx } := by
        refine ⟨fun u hu1 => ?_, fun u hu1 => ?_, fun u _ => hcalm', rfl⟩
        · have hne : t ≠ u := fun e => hu1 (by simp [e])
          show get (putE s.env t v) u = _
          rw [get_putE, if_neg hne, hu, hcalm'.2]; rfl
        · have : u = t := by simpa using hu1
          subst this
          exact ⟨hu, by show get (putE s.env u v) u = _; rw [get_putE, if_pos rfl]⟩
      have hnn : ∀ x ∈ pre, ∀ u ∈ namesOf ops x, u ∉ [t] := by
        intro x hx1 u hu1 he
        have : u = t := by simpa using he
        rw [this] at hu1
        exact h1 x hx1 hu1
      obtain ⟨s1', g1, g2⟩ := Sim.runOps (E := E) (f := f) (n := n) (ops := ops) hd hsim hnn (by
        rcases hnew with e | e
        · exact .inl e
        · exact .inr (h3 e)) s1 hpre
      have hut : get s1.env t = .undef := (g2.inn t (by simp)).1
      have hsame : Same s2 s1' := by
        refine ⟨fun u _ => ?_, fun _ h => absurd h (by simp), fun _ h => absurd h (by simp), ?_⟩
        · rw [hs2]
          by_cases he : u = t
          · subst he
            rw [(g2.inn u (by simp)).2]
            show v = get (putE s1.env u v) u
            rw [get_putE, if_pos rfl]
          · rw [g2.out u (by simpa using he)]
            show get s1.env u = get (putE s1.env t v) u
            rw [get_putE, if_neg (fun e => he e.symm), hut, hcalm'.2]; rfl
        · rw [g2.heap, hs2]; simp
      obtain ⟨sf', g3, g4⟩ := Sim.runOps (E := E) (f := f) (n := n) (ops := ops) hd hsame (fun _ _ _ _ h => absurd h (by simp)) (.inl rfl) sf hr
      refine ⟨sf', ?_, g4⟩
      rw [runOps_cons, hks']
      simp only
      rw [runOps_append, g1]
      exact g3
end Go.Ab
