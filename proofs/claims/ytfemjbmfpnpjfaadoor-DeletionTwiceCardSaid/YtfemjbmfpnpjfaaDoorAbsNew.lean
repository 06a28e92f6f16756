/- New variables. -/
import Derived.Test.YtfemjbmfpnpjfaaDoorAbsLoad
namespace Go.Ab

theorem cells_rel {w : World} {X : Cx} {L : Nat → Loc} {v : AV} {val : Value} (hm : movable v = some v) (h : RVs w X L v val) :
    val.cells.size = v.cells.length ∧ ∀ (j : Nat) c, v.cells[j]? = some c → RVl w X (L j) c (val.cells.getD j undef) := by
  have one : ∀ u : Value, (∀ cs, u ≠ .agg cs) → u.cells = #[u] := by
    intro u hu
    cases u <;> first | rfl | exact absurd rfl (hu _)
  have leaf : ∀ c : AV, c.cells = [c] → (∀ cs, val ≠ .agg cs) → RVl w X (L 0) c val → val.cells.size = c.cells.length ∧ ∀ (j : Nat) c', c.cells[j]? = some c' → RVl w X (L j) c' (val.cells.getD j undef) := by
    intro c hc hv hr
    rw [hc, one val hv]
    refine ⟨rfl, fun j c' hj => ?_⟩
    cases j with
    | zero => simp at hj; subst hj; exact hr
    | succ j => simp at hj
  cases v with
  | undef => cases hm
  | skipped => cases hm
  | loc p => cases hm
  | elt p i off => cases hm
  | tup cs => cases hm
  | agg cs => obtain ⟨vs, rfl, hn, hh⟩ := h; exact ⟨hn, hh⟩
  | d x =>
    have h' : Rep w X.imm x val := h
    cases h' with
    | v y h1 => exact leaf _ rfl (fun cs e => by rw [e] at h1; cases h1) h
    | empty a c => exact leaf _ rfl (fun cs e => by cases e) h
    | list xs b off cap sz V hs hc hh hr => exact leaf _ rfl (fun cs e => by cases e) h
    | agg cs vs hn hr =>
      refine ⟨by simp [AV.cells, Value.cells, hn], fun j c hj => ?_⟩
      simp only [AV.cells, List.getElem?_map, Option.map_eq_some_iff] at hj
      obtain ⟨x, hx, rfl⟩ := hj
      exact hr j x hx
  | own xs l =>
    refine leaf _ rfl (fun cs e => ?_) h
    rcases h with ⟨_, a, e'⟩ | ⟨_, _, a, n, e'⟩ | ⟨b, cap, cur, e1, sz, e', _⟩ <;> (rw [e] at e'; cases e')
  | ptr o off => obtain ⟨b, hb, e⟩ := id h; exact leaf _ rfl (fun cs e' => by rw [e'] at e; cases e) h
  | view cs => obtain ⟨b, off, e, _⟩ := id h; exact leaf _ rfl (fun cs e' => by rw [e'] at e; cases e) h
  | fn f caps => obtain ⟨vs, e, _⟩ := id h; exact leaf _ rfl (fun cs e' => by rw [e'] at e; cases e) h

theorem const_cells (w : World) (X : Cx) (L : Nat → Loc) (z : Value) : z.cells.size = (constAV z).cells.length ∧ ∀ (j : Nat) c, (constAV z).cells[j]? = some c → RVl w X (L j) c (z.cells.getD j undef) := by
  by_cases hz : ∃ cs, z = .agg cs
  · obtain ⟨cs, rfl⟩ := hz
    obtain ⟨vs, e, hn, hh⟩ := constAV_rel w X L (.agg cs)
    cases e
    exact ⟨hn, hh⟩
  · have h1 : z.cells = #[z] := by cases z <;> first | rfl | exact absurd ⟨_, rfl⟩ hz
    have h2 : constAV z = constLeaf z := constAV_leaf z (fun cs e => hz ⟨cs, e⟩)
    have h3 : (constLeaf z).cells = [constLeaf z] := by
      unfold constLeaf; split <;> rfl
    rw [h1, h2, h3]
    refine ⟨rfl, fun j c hj => ?_⟩
    cases j with
    | zero => simp at hj; subst hj; exact constLeaf_rel w X _ z
    | succ j => simp at hj

/-- A new variable: its cells' owners move in. -/
theorem Rel.newVar {E : Env0} {X : Cx} {s : St} {a : Act} {w : World} (h : Rel E X s a w) (cs : List AV) (vs : Array Value) (e : TypeId) (hn : vs.size = cs.length)
    (hh : ∀ (j : Nat) c, cs[j]? = some c → RVl w X (.res j) c (vs.getD j undef)) :
    ∃ X', X'.mu = X.mu ++ [w.heap.size] ∧ Ext X w X' (w.alloc (.cells vs e)) ∧ Rel E X' { s with heap := s.heap ++ [cs] } a (w.alloc (.cells vs e)) := by
  let φ : Loc → Option Loc := fun
    | .res j => some (.cell s.heap.length j)
    | .cell o j => if o = s.heap.length then none else some (.cell o j)
    | .blk o => if o = s.heap.length then none else some (.blk o)
    | l => some l
  let X' : Cx := { mu := X.mu ++ [w.heap.size], amb := X.amb, G := fun b => if b = w.heap.size then some (.blk s.heap.length, 0) else (X.remap φ).G b }
  have hgn : ∀ b, w.heap.size ≤ b → X.G b = none := by
    intro b hb
    cases hx : X.G b with
    | none => rfl
    | some y => have := h.gdom b y.1 y.2 hx; omega
  have hE : Ext X w X' (w.alloc (.cells vs e)) := by
    refine ⟨rfl, by simp, rfl, rfl, rfl, fun b hb hx => ⟨?_, heap_alloc_old w _ b hb⟩, fun b l k hx => ⟨fun l' k' h' => ?_, fun o _ => ?_⟩⟩
    · have : b ≠ w.heap.size := by omega
      simp [X', this, Cx.remap, hx]
    · have hb := h.gdom b l k hx
      have : b ≠ w.heap.size := by omega
      simp only [X', this, if_false] at h'
      exact ((Ext.remap X w φ).own b l k hx).1 l' k' h'
    · have hb := h.gdom b l k hx
      exact cell?_of_heap (heap_alloc_old w _ b hb) o
  have hm : ∀ (o : Nat) b, X.mu[o]? = some b → X'.mu[o]? = some b := fun o b hb => by
    have := (List.getElem?_eq_some_iff.1 hb).1
    simp only [X']; rw [List.getElem?_append_left this]; exact hb
  have hk : ∀ l, φ l = some l → KeptAt X w X' (w.alloc (.cells vs e)) l := by
    intro l hl b k hx
    have hb := h.gdom b l k hx
    have : b ≠ w.heap.size := by omega
    refine ⟨?_, heap_alloc_old w _ b hb⟩
    simp only [X', this, if_false]
    rw [Cx.remap_some hx, hl]; rfl
  have hslot : ∀ t j, φ (.slot t j) = some (.slot t j) := fun t j => rfl
  have hold : ∀ o, o < s.heap.length → ∀ j, φ (.cell o j) = some (.cell o j) ∧ φ (.blk o) = some (.blk o) := fun o ho j => by
    have : o ≠ s.heap.length := by omega
    simp [φ, this]
  have hcv : ∀ p u, (content s p).isOwn = true → cval X a w p = some u → cval X' a (w.alloc (.cells vs e)) p = some u := by
    intro p u hp hu
    cases p with
    | slot t => exact hu
    | cell o off =>
      obtain ⟨cs', h1, h2⟩ := content_cell (c := content s (.cell o off)) rfl (fun e => by rw [e] at hp; cases hp)
      obtain ⟨b, cur, e', hb, hg, hw, _⟩ := h.heap o cs' h1
      simp only [cval, hb] at hu
      simp only [cval, hm o b hb]
      rw [cell?_of_heap (heap_alloc_old w _ b (h.gdom b _ _ hg))]
      exact hu
  have hct : ∀ p, (content { s with heap := s.heap ++ [cs] } p).isOwn = true → (∀ o off, p = .cell o off → o < s.heap.length) → content { s with heap := s.heap ++ [cs] } p = content s p := by
    intro p _ hp
    cases p with
    | slot t => rfl
    | cell o off =>
      simp only [content, cellOf]
      rw [List.getElem?_append_left (hp o off rfl)]
  refine ⟨X', rfl, hE, ⟨fun t => ?_, h.bound, by simp [X', h.mu], fun o cs' hcs' => ?_, fun b l k hx => ?_, fun b o hb => h.amb b o (by simp at hb; omega), fun b l k hx => ?_, fun g cs' hg j c hj => ?_, h.defers⟩⟩
  · have ht := h.env t
    have hold' : ∀ p, (∃ c : AV, get s.env t = c ∧ (c = .loc p ∨ ∃ i off, c = .elt p i off)) → ∀ L x, RVe X s a w (.slot t) (get s.env t) x → RVe X' { s with heap := s.heap ++ [cs] } a (w.alloc (.cells vs e)) L (get s.env t) x := by
      rintro p ⟨c, hc, hp⟩ L x hx
      rw [hc] at hx ⊢
      have hmore : ∀ (q : Place), inR s q → inR { s with heap := s.heap ++ [cs] } q := fun q hq o off e => by have := hq o off e; simp; omega
      rcases hp with rfl | ⟨i, off, rfl⟩
      · refine ⟨hmore p hx.1, fun ho => ?_⟩
        rw [hct p ho hx.1] at ho
        exact hcv p x ho (hx.2 ho)
      · refine ⟨hmore p hx.1, fun xs l ho => ?_⟩
        have e1 := hct p (by rw [ho]; rfl) hx.1
        rw [e1] at ho
        obtain ⟨b, o0, n, cap, sz, g1, g2, g3⟩ := hx.2 xs l ho
        exact ⟨b, o0, n, cap, sz, hcv p _ (by rw [ho]; rfl) g1, g2, g3⟩
    generalize hc : get s.env t = c at ht hold'
    cases c with
    | loc p => exact hold' p ⟨_, rfl, .inl rfl⟩ _ _ ht
    | elt p i off => exact hold' p ⟨_, rfl, .inr ⟨i, off, rfl⟩⟩ _ _ ht
    | _ => exact RVe_of_RVs (RVs.ext hE hm (fun j b k hx => hk (.slot t j) (hslot t j) b k hx) (RVs_of_RVe rfl ht))
  · by_cases ho : o < s.heap.length
    · rw [List.getElem?_append_left ho] at hcs'
      obtain ⟨b, cur, e', hb, hg, hw, hn', hh'⟩ := h.heap o cs' hcs'
      obtain ⟨g1, g2⟩ := hk (.blk o) (hold o ho 0).2 b 0 hg
      exact ⟨b, cur, e', hm o b hb, g1, g2.trans hw, hn', fun j c hj => ⟨RVl.ext hE hm (fun b k hx => hk (.cell o j) (hold o ho j).1 b k hx) (hh' j c hj).1, trivial⟩⟩
    · have hlt := (List.getElem?_eq_some_iff.1 hcs').1
      have : o = s.heap.length := by simp at hlt; omega
      subst this
      simp at hcs'
      subst hcs'
      refine ⟨w.heap.size, vs, e, by simp [X', ← h.mu], by simp [X'], heap_alloc_new w _, hn, fun j c hj => ⟨RVl.ext hE hm (fun b k hx => ?_) (hh j c hj), trivial⟩⟩
      have hb := h.gdom b _ k hx
      have : b ≠ w.heap.size := by omega
      refine ⟨?_, heap_alloc_old w _ b hb⟩
      simp only [X', this, if_false]
      rw [Cx.remap_some hx]; rfl
  · simp only [X'] at hx
    split at hx
    · simp; omega
    · simp only [Cx.remap] at hx
      split at hx
      · rename_i l0 k0 h0
        have := h.gdom b l0 k0 h0
        simp; omega
      · cases hx
  · simp only [X'] at hx
    split at hx
    · rename_i hb
      intro o; exact h.amb b o (by omega)
    · simp only [Cx.remap] at hx
      split at hx
      · rename_i l0 k0 h0; exact h.oamb b l0 k0 h0
      · cases hx
  · obtain ⟨u, h1, h2, h3⟩ := h.glob g cs' hg j c hj
    exact ⟨u, (hE.point h1 h2).1, (hE.point h1 h2).2, hE.rep h3⟩

end Go.Ab
