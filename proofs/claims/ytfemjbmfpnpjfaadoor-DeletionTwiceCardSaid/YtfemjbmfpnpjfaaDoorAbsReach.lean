/- Which variables a call is handed; numbers given and taken back. -/
import Derived.Test.YtfemjbmfpnpjfaaDoorAbsExec
namespace Go.Ab

theorem addNew_sub : ∀ (l seen : List Nat) (x : Nat), x ∈ seen → x ∈ addNew seen l
  | [], _, _, h => h
  | o :: r, seen, x, h => by
    simp only [addNew]
    refine addNew_sub r _ x ?_
    split
    · exact h
    · exact List.mem_append_left _ h

theorem addNew_mem : ∀ (l seen : List Nat) (x : Nat), x ∈ l → x ∈ addNew seen l
  | o :: r, seen, x, h => by
    simp only [addNew]
    rcases List.mem_cons.1 h with rfl | h
    · refine addNew_sub r _ x ?_
      split
      · rename_i hc; simpa using hc
      · simp
    · exact addNew_mem r _ x h

theorem addNew_len : ∀ (l seen : List Nat), seen.length ≤ (addNew seen l).length
  | [], _ => Nat.le_refl _
  | o :: r, seen => by
    simp only [addNew]
    refine Nat.le_trans ?_ (addNew_len r _)
    split <;> simp

theorem addNew_eq : ∀ (l seen : List Nat), (addNew seen l).length = seen.length → addNew seen l = seen
  | [], _, _ => rfl
  | o :: r, seen, h => by
    simp only [addNew] at h ⊢
    split
    · rename_i hc
      rw [if_pos hc] at h
      exact addNew_eq r seen h
    · rename_i hc
      rw [if_neg hc] at h
      have := addNew_len r (seen ++ [o])
      simp at this
      omega

theorem addNew_nodup : ∀ (l seen : List Nat), seen.Nodup → (addNew seen l).Nodup
  | [], _, h => h
  | o :: r, seen, h => by
    simp only [addNew]
    refine addNew_nodup r _ ?_
    split
    · exact h
    · rename_i hc
      rw [List.nodup_append]
      refine ⟨h, by simp, fun x hx y hy => ?_⟩
      simp at hy
      subst hy
      rintro rfl
      exact hc (by simpa using hx)

theorem reach_spec {h : Heap} : ∀ (n : Nat) {seen objs : List Nat}, reach h n seen = some objs → seen.Nodup →
    objs.Nodup ∧ (∀ x ∈ seen, x ∈ objs) ∧ ∀ o ∈ objs, ∀ cs, h[o]? = some cs → ∀ c ∈ cs, ∀ p ∈ ptrsOf c, p ∈ objs
  | 0, seen, objs, hr, _ => by simp [reach] at hr
  | n + 1, seen, objs, hr, hn => by
    simp only [reach] at hr
    split at hr
    · rename_i hlen
      cases hr
      refine ⟨hn, fun x hx => hx, fun o ho cs hcs c hc p hp => ?_⟩
      have := addNew_mem (seen.flatMap fun o => ((h[o]?).getD []).flatMap ptrsOf) seen p (List.mem_flatMap.2 ⟨o, ho, by rw [hcs]; exact List.mem_flatMap.2 ⟨c, hc, hp⟩⟩)
      rwa [addNew_eq _ _ hlen] at this
    · obtain ⟨h1, h2, h3⟩ := reach_spec n hr (addNew_nodup _ _ hn)
      exact ⟨h1, fun x hx => h2 x (addNew_sub _ _ x hx), h3⟩

theorem cellsAt_spec {h : Heap} : ∀ {l : List Nat} {hs : Heap}, cellsAt h l = some hs → hs.length = l.length ∧ ∀ (i : Nat) o, l[i]? = some o → ∃ cs, h[o]? = some cs ∧ hs[i]? = some cs
  | [], hs, hp => by simp [cellsAt] at hp; subst hp; exact ⟨rfl, fun i o hi => by simp at hi⟩
  | o :: r, hs, hp => by
    simp only [cellsAt] at hp
    cases h1 : h[o]? with
    | none => simp [h1] at hp
    | some cs =>
      cases h2 : cellsAt h r with
      | none => simp [h1, h2] at hp
      | some hs' =>
        simp only [h1, h2, Option.some.injEq] at hp
        subst hp
        obtain ⟨h3, h4⟩ := cellsAt_spec h2
        refine ⟨by simp [h3], fun i o' hi => ?_⟩
        cases i with
        | zero => simp at hi; subst hi; exact ⟨cs, h1, rfl⟩
        | succ i => obtain ⟨cs', h5, h6⟩ := h4 i o' (by simpa using hi); exact ⟨cs', h5, by simpa using h6⟩

theorem idx_get {objs : List Nat} {o : Nat} (h : o ∈ objs) : objs[objs.idxOf o]? = some o := by
  have hlt := List.idxOf_lt_length_of_mem h
  rw [List.getElem?_eq_getElem hlt, List.getElem_idxOf hlt]

theorem idx_of {objs : List Nat} (hn : objs.Nodup) {i o : Nat} (h : objs[i]? = some o) : objs.idxOf o = i := by
  obtain ⟨hlt, rfl⟩ := List.getElem?_eq_some_iff.1 h
  exact List.Nodup.idxOf_getElem hn i hlt

theorem writeBack_len : ∀ (objs : List Nat) (h hb : Heap), (writeBack h objs hb).length = h.length
  | [], h, hb => by cases hb <;> rfl
  | o :: os, h, [] => rfl
  | o :: os, h, cs :: r => by simp only [writeBack]; rw [writeBack_len os]; simp

theorem writeBack_other : ∀ (objs : List Nat) (h hb : Heap) (o : Nat), o ∉ objs → (writeBack h objs hb)[o]? = h[o]?
  | [], h, hb, o, _ => by cases hb <;> rfl
  | o' :: os, h, [], o, _ => rfl
  | o' :: os, h, cs :: r, o, hn => by
    simp only [writeBack]
    rw [writeBack_other os _ r o (fun hm => hn (List.mem_cons_of_mem _ hm))]
    rw [List.getElem?_set_ne (fun e => hn (by rw [e]; exact List.mem_cons_self))]

theorem writeBack_at : ∀ (objs : List Nat) (h hb : Heap) (i o : Nat), objs.Nodup → objs[i]? = some o → o < h.length → i < hb.length → (writeBack h objs hb)[o]? = hb[i]?
  | [], h, hb, i, o, _, hi, _, _ => by simp at hi
  | o' :: os, h, [], i, o, _, _, _, hl => by simp at hl
  | o' :: os, h, cs :: r, i, o, hn, hi, ho, hl => by
    simp only [writeBack]
    obtain ⟨hn1, hn2⟩ := List.nodup_cons.1 hn
    cases i with
    | zero =>
      simp at hi
      subst hi
      rw [writeBack_other os _ r _ hn1]
      simp [ho]
    | succ i =>
      rw [writeBack_at os _ r i o hn2 (by simpa using hi) (by simpa using ho) (by simpa using hl)]
      simp

theorem get_killObjs (objs : List Nat) : ∀ (e : Env) (t : Nat), get (killObjs objs e) t = if hits objs (get e t) then .undef else get e t
  | [], t => by simp [killObjs, get, hits, AV.placed]
  | (k, v) :: r, t => by
    simp only [killObjs]
    have ih := get_killObjs objs r t
    by_cases hk : hits objs v = true
    · rw [if_pos hk, get_eraseE]
      by_cases h : k = t
      · simp only [h, if_true, get]
        rw [if_pos hk]
      · simp only [h, if_false, get]
        exact ih
    · rw [if_neg hk]
      by_cases h : k = t
      · simp only [h, if_true, get]
        rw [if_neg hk]
      · simp only [h, if_false, get]
        exact ih

/-- A leaf under other numbers, in another world. -/
theorem RVl.ren {w w' : World} {X X' : Cx} {ρ : Nat → Nat} {l l' : Loc} {c : AV} {v : Value} (hrep : ∀ d u, Rep w X.imm d u → Rep w' X'.imm d u)
    (hpt : ∀ b o u, w.cell? ⟨b, o, none⟩ = some u → X.imm b o → w'.cell? ⟨b, o, none⟩ = some u ∧ X'.imm b o)
    (hm : ∀ o ∈ ptrsOf c, ∀ b, X.mu[o]? = some b → X'.mu[ρ o]? = some b) (hk : c.isOwn = true → ∀ b k, X.G b = some (l, k) → X'.G b = some (l', k) ∧ w'.heap[b]? = w.heap[b]?) (h : RVl w X l c v) : RVl w' X' l' (renAV ρ c) v := by
  cases c with
  | undef => trivial
  | skipped => exact h
  | d x => exact hrep _ _ h
  | own xs lt =>
    rcases h with h0 | ⟨h1, h2, h3⟩ | ⟨b, cap, cur, e, sz, rfl, hg, hw, hs, hz, hne, hsz, hc, hmx, hr⟩
    · exact .inl h0
    · exact .inr (.inl ⟨h1, hrep _ _ h2, h3⟩)
    · obtain ⟨g1, g2⟩ := hk rfl b _ hg
      exact .inr (.inr ⟨b, cap, cur, e, sz, rfl, g1, g2.trans hw, hs, hz, hne, hsz, hc, hmx, fun i x hx j c hj => let ⟨u, hu, hru⟩ := hr i x hx j c hj; ⟨u, hu, hrep _ _ hru⟩⟩)
  | ptr o off => obtain ⟨b, hb, hv⟩ := h; exact ⟨b, hm o (by simp [ptrsOf]) b hb, hv⟩
  | view cs =>
    obtain ⟨b, off, hv, hh⟩ := h
    exact ⟨b, off, hv, fun j c hj => let ⟨u, h1, h2, h3⟩ := hh j c hj; ⟨u, (hpt _ _ _ h1 h2).1, (hpt _ _ _ h1 h2).2, hrep _ _ h3⟩⟩
  | fn f caps =>
    obtain ⟨vs, hv, hn, hh⟩ := h
    refine ⟨vs, hv, by simpa using hn, fun j o a hj => ?_⟩
    rw [List.getElem?_map] at hj
    cases hc : caps[j]? with
    | none => rw [hc] at hj; cases hj
    | some oa =>
      obtain ⟨o0, a0⟩ := oa
      rw [hc] at hj
      simp only [Option.map_some, Option.some.injEq, Prod.mk.injEq] at hj
      obtain ⟨rfl, rfl⟩ := hj
      obtain ⟨b, hb, hu⟩ := hh j o0 a0 hc
      exact ⟨b, hm o0 (by simp only [ptrsOf]; exact List.mem_map.2 ⟨_, List.mem_of_getElem? hc, rfl⟩) b hb, hu⟩
  | loc p => exact h
  | elt p i off => exact h
  | agg cs => exact h
  | tup cs => exact h

end Go.Ab
