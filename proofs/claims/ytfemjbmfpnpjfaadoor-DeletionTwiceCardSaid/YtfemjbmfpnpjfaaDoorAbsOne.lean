/- The operations that need no other function, all of them. -/
import Derived.Test.YtfemjbmfpnpjfaaDoorAbsBuild
namespace Go.Ab

variable {E : Env0} {X : Cx} {s s1 : St} {a : Act} {w : World}

theorem map_pair {α : Type} {x : Option α} {f : α → AV} {s s1 : St} {v : AV} (h : x.map (fun y => (f y, s)) = some (v, s1)) : ∃ y, x = some y ∧ f y = v ∧ s = s1 := by
  cases x with
  | none => cases h
  | some y => simp at h; exact ⟨y, rfl, h.1, h.2⟩

/-- The place of an element, in another temporary. -/
theorem Rel.assignElt (h : Rel E X s a w) {o : Oper} {x : Operand} (ho : o.op = .assign x ∨ o.op = .move x) {p : Place} {i off : Nat} (hc : ev E s x = .elt p i off) :
    Sound E X a w ((execOp a.eval o).run E.P w) (.elt p i off) (s.del (tmpOf x)) := by
  have hr : (execOp a.eval o).run E.P w = .ok (.value (a.eval x)) w := by rcases ho with ho | ho <;> simp [execOp, ho]
  cases x with
  | const c =>
    exfalso
    simp only [ev, constAV] at hc
    split at hc
    · cases hc
    · unfold constLeaf at hc; split at hc <;> cases hc
  | func f => cases hc
  | global g => simp only [ev] at hc; split at hc <;> cases hc
  | tmp t =>
    have ht := h.env t
    have hct : get s.env t = .elt p i off := hc
    rw [hct] at ht
    have hst : s.del (tmpOf (.tmp t)) = { s with env := putE s.env t .undef } := rfl
    have hget : ∀ u, get (putE s.env t .undef) u = if t = u then .undef else get s.env u := by
      intro u
      rw [get_putE]
      simp [hct, show AV.undef.isOwn = false from rfl, show (AV.elt p i off).isOwn = false from rfl]
    have hR : Rel E X (s.del (tmpOf (.tmp t))) a w := by
      refine h.less (s' := s.del (tmpOf (.tmp t))) rfl (fun u => ?_) (fun o j => .inl rfl) (fun o cs hcs => ⟨cs, hcs, rfl⟩)
      rw [hst]
      simp only [hget]
      by_cases e : t = u
      · simp [e]
      · simp [e]
    refine ⟨a.eval (.tmp t), w, X, hr, ⟨[], by simp⟩, Ext.refl X w, hR, ?_⟩
    refine ⟨ht.1, fun xs l hown => ?_⟩
    have : content s p = .own xs l := by
      cases p with
      | slot u =>
        have h1 : get (putE s.env t .undef) u = .own xs l := hown
        rw [hget] at h1
        split at h1
        · cases h1
        · exact h1
      | cell o off => exact hown
    exact ht.2 xs l this

theorem assign_sound (h : Rel E X s a w) (o : Oper) {x : Operand} (ho : o.op = .assign x ∨ o.op = .move x) {v : AV} (hp : (moveOr (ev E s x)).map (fun v => (v, s)) = some (v, s1)) :
    Sound E X a w ((execOp a.eval o).run E.P w) v (s1.del (tmpOf x)) := by
  simp only [Option.map_eq_some_iff, Prod.mk.injEq] at hp
  obtain ⟨v', hm, rfl, rfl⟩ := hp
  by_cases hel : ∃ p i off, ev E s x = .elt p i off
  · obtain ⟨p, i, off, he⟩ := hel
    rw [he] at hm
    cases hm
    exact h.assignElt ho he
  have hm : movable (ev E s x) = some v' := by
    cases hc : ev E s x with
    | elt p i off => exact absurd ⟨p, i, off, hc⟩ hel
    | _ => rw [hc] at hm; exact hm
  obtain ⟨X1, hmu, hE, hR, hrv, _⟩ := h.take hm 0
  simp only [Nat.zero_add] at hrv
  exact ⟨a.eval x, w, X1, by rcases ho with ho | ho <;> simp [execOp, ho], ⟨[], by simp [hmu]⟩, hE, hR, RVe_of_RVs hrv⟩

theorem stepOp_sound (h : Rel E X s a w) (o : Oper) {fl : Flag} {q : Bool} {v : AV} (hp : stepOp E fl q o.op s = some (v, s1)) :
    Sound E X a w ((execOp a.eval o).run E.P w) v (s1.del (usedUp o.op)) := by
  cases hop : o.op with
  | move x =>
    rw [hop] at hp
    cases x with
    | tmp t => exact move_sound h o hop hp
    | const c => exact assign_sound h o (.inr hop) hp
    | global g => exact assign_sound h o (.inr hop) hp
    | func f => exact assign_sound h o (.inr hop) hp
  | assign x => rw [hop] at hp; exact assign_sound h o (.inl hop) hp
  | pick c x y =>
    rw [hop] at hp
    simp only [stepOp] at hp
    split at hp
    · rename_i t hc
      obtain ⟨d, h1, rfl, rfl⟩ := map_pair hp
      exact pick_sound h o hop hc h1
    · cases hp
  | alloc e =>
    rw [hop] at hp
    simp only [stepOp, Option.map_eq_some_iff, Prod.mk.injEq] at hp
    obtain ⟨z, hz, rfl, rfl⟩ := hp
    exact alloc_sound h o hop hz
  | box e x =>
    rw [hop] at hp
    simp only [stepOp] at hp
    split at hp
    · rename_i v' n hm hn
      split at hp
      · simp only [Option.some.injEq, Prod.mk.injEq] at hp
        obtain ⟨rfl, rfl⟩ := hp
        exact box_sound h o hop hm
      · cases hp
    · cases hp
  | build t parts =>
    rw [hop] at hp
    simp only [stepOp] at hp
    split at hp
    · rename_i z ps hz hps
      split at hp
      · rename_i hok
        obtain ⟨cs, h1, rfl, rfl⟩ := map_pair hp
        exact build_sound h o hop hz hps hok h1
      · cases hp
    · cases hp
  | buildSlice t n parts =>
    rw [hop] at hp
    simp only [stepOp] at hp
    split at hp
    · rename_i e xs he hxs
      split at hp
      · rename_i hc
        simp only [Option.some.injEq, Prod.mk.injEq] at hp
        obtain ⟨rfl, rfl⟩ := hp
        obtain ⟨c1, c2, c3, c4, c5, c6⟩ := hc
        exact buildSlice_sound h o hop he hxs c1 c2 c3 c4 c5 (fun sz hs => by unfold smallOk at c6; rw [hs] at c6; simpa using c6)
      · cases hp
    · cases hp
  | load t x => rw [hop] at hp; exact load_sound h o hop hp
  | nilCheck x => rw [hop] at hp; exact nilCheck_sound h o hop hp
  | binOp op t x y u =>
    rw [hop] at hp
    simp only [stepOp] at hp
    split at hp
    · rename_i p r hx hy
      obtain ⟨z, h1, rfl, rfl⟩ := map_pair hp
      exact binOp_sound h o hop hx hy h1
    · cases hp
  | unOp op t x =>
    rw [hop] at hp
    simp only [stepOp] at hp
    split at hp
    · rename_i p hx
      obtain ⟨z, h1, rfl, rfl⟩ := map_pair hp
      exact unOp_sound h o hop hx h1
    · cases hp
  | convert src dst x =>
    rw [hop] at hp
    simp only [stepOp] at hp
    split at hp
    · rename_i k0 k kk n h1 h2 hx
      simp only [Option.some.injEq, Prod.mk.injEq] at hp
      obtain ⟨rfl, rfl⟩ := hp
      exact convert_int_sound h o hop h1 h2 hx
    · rename_i b h1 h2 hx
      simp only [Option.some.injEq, Prod.mk.injEq] at hp
      obtain ⟨rfl, rfl⟩ := hp
      exact convert_string_sound h o hop h1 h2 hx
    · cases hp
  | makeSlice t l c =>
    rw [hop] at hp
    simp only [stepOp] at hp
    split at hp
    · rename_i e n m he hl hc
      split at hp
      · rename_i x b hz hb
        split at hp
        · rename_i hcond
          simp only [Option.some.injEq, Prod.mk.injEq] at hp
          obtain ⟨rfl, rfl⟩ := hp
          obtain ⟨rfl, c2, c3, c4, c5⟩ := hcond
          simp only [Option.bind_eq_some_iff] at hz
          obtain ⟨z, hz1, hz2⟩ := hz
          exact makeSlice_sound h o hop he hl hc hz1 hz2 hb c2 c3 c4 c5
        · cases hp
      · cases hp
    · cases hp
  | slice t x lo hi mx =>
    rw [hop] at hp
    obtain ⟨y, h1, rfl, rfl⟩ := map_pair hp
    exact slice_sound h o hop h1
  | fieldAddr t x i =>
    rw [hop] at hp
    simp only [stepOp] at hp
    split at hp
    · rename_i off u hf
      split at hp
      · rename_i n hn
        exact fieldAddr_sound h o hop hf hn hp
      · cases hp
    · cases hp
  | field t x i =>
    rw [hop] at hp
    simp only [stepOp] at hp
    split at hp
    · rename_i cs off u hx hf
      obtain ⟨y, h1, rfl, rfl⟩ := map_pair hp
      exact field_sound h o hop hx hf h1
    · cases hp
  | indexAddr t x i =>
    rw [hop] at hp
    simp only [stepOp] at hp
    split at hp
    · rename_i n hi
      obtain ⟨y, h1, rfl, rfl⟩ := map_pair hp
      exact indexAddr_sound h o hop hi h1
    · cases hp
  | index t x i =>
    rw [hop] at hp
    simp only [stepOp] at hp
    split at hp
    · rename_i n y hi hx
      obtain ⟨z, h1, rfl, rfl⟩ := map_pair hp
      exact index_sound h o hop hi hx h1
    · cases hp
  | extract x i =>
    rw [hop] at hp
    cases x with
    | tmp t =>
      simp only [stepOp] at hp
      split at hp
      · rename_i vs hx
        split at hp
        · rename_i y hi
          simp only [Option.some.injEq, Prod.mk.injEq] at hp
          obtain ⟨rfl, rfl⟩ := hp
          exact extract_sound h o hop hx hi (.inl ⟨y, rfl⟩)
        · rename_i ob oo hi
          simp only [Option.some.injEq, Prod.mk.injEq] at hp
          obtain ⟨rfl, rfl⟩ := hp
          exact extract_sound h o hop hx hi (.inr ⟨ob, oo, rfl⟩)
        · cases hp
      · cases hp
    | const c => simp [stepOp] at hp
    | global g => simp [stepOp] at hp
    | func f => simp [stepOp] at hp
  | makeFunc fn first caps =>
    rw [hop] at hp
    cases fn with
    | func f =>
      simp only [stepOp] at hp
      split at hp
      · rename_i hf
        obtain ⟨ps, h1, rfl, rfl⟩ := map_pair hp
        exact makeFunc_sound h o hop hf h1
      · cases hp
    | _ => simp [stepOp] at hp
  | call c =>
    rw [hop] at hp
    obtain ⟨callee, args, ts⟩ := c
    cases callee with
    | builtin b =>
      simp only [stepOp, builtinOp] at hp
      split at hp
      · rename_i x t ha ht
        obtain ⟨n, h1, rfl, rfl⟩ := map_pair hp
        exact len_sound h o hop ha ht h1
      · rename_i x y ha
        split at hp
        · rename_i k m k' n hx hy
          simp only [Option.some.injEq, Prod.mk.injEq] at hp
          obtain ⟨rfl, rfl⟩ := hp
          exact max_sound h o hop ha hx hy
        · cases hp
      · rename_i x y ha
        split at hp
        · rename_i k m k' n hx hy
          simp only [Option.some.injEq, Prod.mk.injEq] at hp
          obtain ⟨rfl, rfl⟩ := hp
          exact min_sound h o hop ha hx hy
        · cases hp
      · rename_i x y t u ha ht
        split at hp
        · rename_i htu
          have := append_sound h o hop ha ht htu hp
          simpa only [usedUp, ha] using this
        · cases hp
      · cases hp
    | value f => simp [stepOp] at hp
    | invoke r m => simp [stepOp] at hp
  | _ => rw [hop] at hp; simp [stepOp] at hp

end Go.Ab
