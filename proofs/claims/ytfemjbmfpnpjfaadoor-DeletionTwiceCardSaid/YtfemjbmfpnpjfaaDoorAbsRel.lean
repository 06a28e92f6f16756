/- What the abstract machine's state says of the model's frame and world; how it is kept. -/
import Derived.Test.YtfemjbmfpnpjfaaDoorAbsDef
import Derived.Laws.AppendOwn
import Derived.Laws.MakeOwn
import Derived.Laws.Small
import Derived.Orders
namespace Go.Ab

inductive Loc where
  | slot (t j : Nat)
  | cell (o j : Nat)
  | blk (o : Nat)
  | res (j : Nat)
  deriving DecidableEq

/-- The blocks of the variables; who owns a block, and from which cell on it may be written; what old memory may be read. -/
structure Cx where
  mu : List Nat
  G : Nat → Option (Loc × Nat)
  amb : Nat → Nat → Prop

def Cx.imm (X : Cx) (b o : Nat) : Prop := X.amb b o ∧ ∀ l k, X.G b = some (l, k) → o < k

inductive Rep (w : World) (I : Nat → Nat → Prop) : D → Value → Prop
  | v (x : Value) (h1 : x.oneCell' = true) : Rep w I (.v x) x
  | empty (a : Option Addr) (c : Nat) : Rep w I (.list []) (.slice a 0 c)
  | list (xs : List D) (b off cap sz : Nat) (V : Nat → Nat → Value) (hs : ∀ x ∈ xs, x.cells.length = sz) (hc : xs.length ≤ cap)
      (h : ∀ (i : Nat) x, xs[i]? = some x → ∀ (j : Nat) c, x.cells[j]? = some c → w.cell? ⟨b, off + i * sz + j, none⟩ = some (V i j) ∧ I b (off + i * sz + j))
      (hr : ∀ (i : Nat) x, xs[i]? = some x → ∀ (j : Nat) c, x.cells[j]? = some c → Rep w I c (V i j)) : Rep w I (.list xs) (.slice (some ⟨b, off, none⟩) xs.length cap)
  | agg (cs : List D) (vs : Array Value) (hn : vs.size = cs.length) (hr : ∀ (j : Nat) c, cs[j]? = some c → Rep w I c (vs.getD j undef)) : Rep w I (.agg cs) (.agg vs)

theorem Rep.mono {w w' : World} {I I' : Nat → Nat → Prop} (h : ∀ b o u, w.cell? ⟨b, o, none⟩ = some u → I b o → w'.cell? ⟨b, o, none⟩ = some u ∧ I' b o) {d : D} {v : Value} (hr : Rep w I d v) : Rep w' I' d v := by
  induction hr with
  | v x h1 => exact .v x h1
  | empty a c => exact .empty a c
  | list xs b off cap sz V hs hc hh _ ih =>
    exact .list xs b off cap sz V hs hc (fun i x hx j c hj => h _ _ _ (hh i x hx j c hj).1 (hh i x hx j c hj).2) ih
  | agg cs vs hn _ ih => exact .agg cs vs hn ih

structure Ext (X : Cx) (w : World) (X' : Cx) (w' : World) : Prop where
  amb : X'.amb = X.amb
  size : w.heap.size ≤ w'.heap.size
  os : w'.os = w.os
  tape : w'.tape = w.tape
  output : w'.output = w.output
  free : ∀ b, b < w.heap.size → X.G b = none → X'.G b = none ∧ w'.heap[b]? = w.heap[b]?
  own : ∀ b l k, X.G b = some (l, k) → (∀ l' k', X'.G b = some (l', k') → k ≤ k') ∧ ∀ o, o < k → w'.cell? ⟨b, o, none⟩ = w.cell? ⟨b, o, none⟩

theorem Ext.refl (X : Cx) (w : World) : Ext X w X w :=
  ⟨rfl, Nat.le_refl _, rfl, rfl, rfl, fun _ _ h => ⟨h, rfl⟩, fun b l k h => ⟨fun l' k' h' => (by rw [h] at h'; simp only [Option.some.injEq, Prod.mk.injEq] at h'; omega), fun _ _ => rfl⟩⟩

theorem cell?_of_heap {w w' : World} {b : Nat} (h : w'.heap[b]? = w.heap[b]?) (o : Nat) : w'.cell? ⟨b, o, none⟩ = w.cell? ⟨b, o, none⟩ := by
  simp [World.cell?, h]

theorem Ext.trans {X X' X'' : Cx} {w w' w'' : World} (hg : ∀ b l k, X.G b = some (l, k) → b < w.heap.size) (h : Ext X w X' w') (h' : Ext X' w' X'' w'') : Ext X w X'' w'' := by
  refine ⟨h'.amb.trans h.amb, Nat.le_trans h.size h'.size, h'.os.trans h.os, h'.tape.trans h.tape, h'.output.trans h.output, fun b hb hn => ?_, fun b l k hk => ?_⟩
  · obtain ⟨h1, h2⟩ := h.free b hb hn
    obtain ⟨h3, h4⟩ := h'.free b (Nat.lt_of_lt_of_le hb h.size) h1
    exact ⟨h3, h4.trans h2⟩
  · obtain ⟨h1, h2⟩ := h.own b l k hk
    cases hx : X'.G b with
    | none =>
      obtain ⟨h3, h4⟩ := h'.free b (Nat.lt_of_lt_of_le (hg b l k hk) h.size) hx
      exact ⟨fun l' k' e => (by rw [h3] at e; cases e), fun o ho => (cell?_of_heap h4 o).trans (h2 o ho)⟩
    | some y =>
      obtain ⟨l1, k1⟩ := y
      have hle := h1 l1 k1 hx
      obtain ⟨h3, h4⟩ := h'.own b l1 k1 hx
      exact ⟨fun l' k' e => Nat.le_trans hle (h3 l' k' e), fun o ho => (h4 o (Nat.lt_of_lt_of_le ho hle)).trans (h2 o ho)⟩

theorem Ext.point {X X' : Cx} {w w' : World} (h : Ext X w X' w') {b o : Nat} {u : Value} (hc : w.cell? ⟨b, o, none⟩ = some u) (hi : X.imm b o) :
    w'.cell? ⟨b, o, none⟩ = some u ∧ X'.imm b o := by
  have hb : b < w.heap.size := World.block_lt_of_cell? w ⟨b, o, none⟩ hc
  obtain ⟨ha, hi⟩ := hi
  cases hx : X.G b with
  | none =>
    obtain ⟨h1, h2⟩ := h.free b hb hx
    exact ⟨(cell?_of_heap h2 o).trans hc, by rw [h.amb]; exact ha, fun l k e => by rw [h1] at e; cases e⟩
  | some y =>
    obtain ⟨l, k⟩ := y
    have hlt := hi l k hx
    obtain ⟨h1, h2⟩ := h.own b l k hx
    exact ⟨(h2 o hlt).trans hc, by rw [h.amb]; exact ha, fun l' k' e => Nat.lt_of_lt_of_le hlt (h1 l' k' e)⟩

theorem Ext.rep {X X' : Cx} {w w' : World} (h : Ext X w X' w') {d : D} {v : Value} (hr : Rep w X.imm d v) : Rep w' X'.imm d v :=
  hr.mono fun _ _ _ hc hi => h.point hc hi

/-- An owned slice: nothing to own; or its cells are read alone and it has no room; or it owns its block. -/
def OwnOk (w : World) (X : Cx) (l : Loc) (xs : List D) (lent : Bool) (v : Value) : Prop :=
  (xs = [] ∧ ∃ a, v = .slice a 0 0) ∨
  (lent = true ∧ Rep w X.imm (.list xs) v ∧ ∃ a n, v = .slice a n n) ∨
  (∃ b cap cur e sz, v = .slice (some ⟨b, 0, none⟩) xs.length cap ∧ X.G b = some (l, if lent then xs.length * sz else 0) ∧ w.heap[b]? = some (.cells cur e (0, 0)) ∧
    (∀ x ∈ xs, x.cells.length = sz) ∧ 0 < sz ∧ xs ≠ [] ∧ cur.size = cap * sz ∧ xs.length ≤ cap ∧ cap ≤ maxLen ∧
    ∀ (i : Nat) x, xs[i]? = some x → ∀ (j : Nat) c, x.cells[j]? = some c → ∃ u, cur[i * sz + j]? = some u ∧ Rep w X.imm c u)

def RVl (w : World) (X : Cx) (l : Loc) : AV → Value → Prop
  | .undef, _ => True
  | .skipped, v => v = undef
  | .d x, v => Rep w X.imm x v
  | .own xs lt, v => OwnOk w X l xs lt v
  | .ptr o off, v => ∃ b, X.mu[o]? = some b ∧ v = .pointer (some ⟨b, off, none⟩)
  | .view cs, v => ∃ b off, v = .pointer (some ⟨b, off, none⟩) ∧ ∀ (j : Nat) c, cs[j]? = some c → ∃ u, w.cell? ⟨b, off + j, none⟩ = some u ∧ X.imm b (off + j) ∧ Rep w X.imm c u
  | .fn f caps, v => ∃ vs : Array Value, v = .func (.func f) #[] vs ∧ vs.size = caps.length ∧ ∀ (j : Nat) o a, caps[j]? = some (o, a) → ∃ b, X.mu[o]? = some b ∧ vs[j]? = some (.pointer (some ⟨b, a, none⟩))
  | .loc _, _ | .elt _ _ _, _ | .agg _, _ | .tup _, _ => False

def RVs (w : World) (X : Cx) (L : Nat → Loc) : AV → Value → Prop
  | .agg cs, v => ∃ vs : Array Value, v = .agg vs ∧ vs.size = cs.length ∧ ∀ (j : Nat) c, cs[j]? = some c → RVl w X (L j) c (vs.getD j undef)
  | .tup cs, v => ∃ vs : Array Value, v = .tuple vs ∧ vs.size = cs.length ∧ ∀ (j : Nat) c, cs[j]? = some c → c.isOwn = false ∧ RVl w X (L j) c (vs.getD j undef)
  | c, v => RVl w X (L 0) c v

/-- What lies at a place, in the model. -/
def cval (X : Cx) (a : Act) (w : World) : Place → Option Value
  | .slot t => a.tmps[t]?
  | .cell o off => match X.mu[o]? with | some b => w.cell? ⟨b, off, none⟩ | none => none

/-- A place that is there. -/
def inR (s : St) (p : Place) : Prop := ∀ o off, p = .cell o off → o < s.heap.length

def RVe (X : Cx) (s : St) (a : Act) (w : World) (L : Nat → Loc) : AV → Value → Prop
  | .loc p, v => inR s p ∧ ((content s p).isOwn = true → cval X a w p = some v)
  | .elt p i off, v => inR s p ∧ ∀ xs l, content s p = .own xs l → ∃ b o0 n cap sz, cval X a w p = some (.slice (some ⟨b, o0, none⟩) n cap) ∧ (∀ x ∈ xs, x.cells.length = sz) ∧ v = .pointer (some ⟨b, o0 + i * sz + off, none⟩)
  | c, v => RVs w X L c v

structure Rel (E : Env0) (X : Cx) (s : St) (a : Act) (w : World) : Prop where
  env : ∀ t, RVe X s a w (.slot t) (get s.env t) (a.tmps.getD t undef)
  bound : ∀ t, (∃ v, get s.env t = v ∧ v ≠ .undef) → t < a.tmps.size
  mu : X.mu.length = s.heap.length
  heap : ∀ (o : Nat) cs, s.heap[o]? = some cs → ∃ b cur e, X.mu[o]? = some b ∧ X.G b = some (.blk o, 0) ∧ w.heap[b]? = some (.cells cur e (0, 0)) ∧ cur.size = cs.length ∧
    ∀ (j : Nat) c, cs[j]? = some c → RVl w X (.cell o j) c (cur.getD j undef) ∧ True
  gdom : ∀ b l k, X.G b = some (l, k) → b < w.heap.size
  amb : ∀ b o, w.heap.size ≤ b → X.amb b o
  oamb : ∀ b l k, X.G b = some (l, k) → ∀ o, X.amb b o
  glob : ∀ g cs, E.glob g = some cs → ∀ (j : Nat) c, cs[j]? = some c → ∃ u, w.cell? ⟨g, j, none⟩ = some u ∧ X.imm g j ∧ Rep w X.imm c u
  defers : a.defers = []

/-- At a location everything is as it was. -/
def KeptAt (X : Cx) (w : World) (X' : Cx) (w' : World) (l : Loc) : Prop := ∀ b k, X.G b = some (l, k) → X'.G b = some (l, k) ∧ w'.heap[b]? = w.heap[b]?

theorem OwnOk.ext {X X' : Cx} {w w' : World} {l l' : Loc} {xs : List D} {lt : Bool} {v : Value} (h : Ext X w X' w') (hk : ∀ b k, X.G b = some (l, k) → X'.G b = some (l', k) ∧ w'.heap[b]? = w.heap[b]?)
    (ho : OwnOk w X l xs lt v) : OwnOk w' X' l' xs lt v := by
  rcases ho with h0 | ⟨h1, h2, h3⟩ | ⟨b, cap, cur, e, sz, rfl, hg, hw, hs, hz, hne, hsz, hc, hm, hr⟩
  · exact .inl h0
  · exact .inr (.inl ⟨h1, h.rep h2, h3⟩)
  · obtain ⟨g1, g2⟩ := hk b _ hg
    exact .inr (.inr ⟨b, cap, cur, e, sz, rfl, g1, g2.trans hw, hs, hz, hne, hsz, hc, hm, fun i x hx j c hj => let ⟨u, hu, hru⟩ := hr i x hx j c hj; ⟨u, hu, h.rep hru⟩⟩)

theorem RVl.ext {X X' : Cx} {w w' : World} {l l' : Loc} {c : AV} {v : Value} (h : Ext X w X' w') (hm : ∀ (o : Nat) b, X.mu[o]? = some b → X'.mu[o]? = some b)
    (hk : ∀ b k, X.G b = some (l, k) → X'.G b = some (l', k) ∧ w'.heap[b]? = w.heap[b]?) (hr : RVl w X l c v) : RVl w' X' l' c v := by
  cases c with
  | undef => trivial
  | skipped => exact hr
  | d x => exact h.rep hr
  | own xs lt => exact OwnOk.ext h hk hr
  | ptr o off => obtain ⟨b, hb, hv⟩ := hr; exact ⟨b, hm o b hb, hv⟩
  | view cs =>
    obtain ⟨b, off, hv, hh⟩ := hr
    exact ⟨b, off, hv, fun j c hj => let ⟨u, h1, h2, h3⟩ := hh j c hj; ⟨u, (h.point h1 h2).1, (h.point h1 h2).2, h.rep h3⟩⟩
  | fn f caps =>
    obtain ⟨vs, hv, hn, hh⟩ := hr
    exact ⟨vs, hv, hn, fun j o a hj => let ⟨b, hb, hu⟩ := hh j o a hj; ⟨b, hm o b hb, hu⟩⟩
  | loc p => exact hr
  | elt p i off => exact hr
  | agg cs => exact hr
  | tup cs => exact hr

theorem RVs.ext {X X' : Cx} {w w' : World} {L L' : Nat → Loc} {c : AV} {v : Value} (h : Ext X w X' w') (hm : ∀ (o : Nat) b, X.mu[o]? = some b → X'.mu[o]? = some b)
    (hk : ∀ j b k, X.G b = some (L j, k) → X'.G b = some (L' j, k) ∧ w'.heap[b]? = w.heap[b]?) (hr : RVs w X L c v) : RVs w' X' L' c v := by
  cases c with
  | agg cs => obtain ⟨vs, hv, hn, hh⟩ := hr; exact ⟨vs, hv, hn, fun j c hj => RVl.ext h hm (hk j) (hh j c hj)⟩
  | tup cs => obtain ⟨vs, hv, hn, hh⟩ := hr; exact ⟨vs, hv, hn, fun j c hj => ⟨(hh j c hj).1, RVl.ext h hm (hk j) (hh j c hj).2⟩⟩
  | _ => exact RVl.ext (l := L 0) (l' := L' 0) h hm (hk 0) (by simpa only [RVs] using hr)

theorem RVe_of_RVs {X : Cx} {s : St} {a : Act} {w : World} {L : Nat → Loc} {c : AV} {v : Value} (h : RVs w X L c v) : RVe X s a w L c v := by
  cases c with
  | loc p => exact (h : False).elim
  | elt p i off => exact (h : False).elim
  | _ => exact h

theorem RVs_of_RVe {X : Cx} {s : St} {a : Act} {w : World} {L : Nat → Loc} {c : AV} {v : Value} (hp : c.placed = false) (h : RVe X s a w L c v) : RVs w X L c v := by
  cases c with
  | loc p => cases hp
  | elt p i off => cases hp
  | _ => exact h

/-! ### Environments -/

theorem get_setE (e : Env) (t u : Nat) (v : AV) : get (setE e t v) u = if t = u then v else get e u := by
  induction e with
  | nil => by_cases h : t = u <;> simp [setE, get, h]
  | cons p r ih =>
    obtain ⟨k, x⟩ := p
    simp only [setE]
    split
    · by_cases h : t = u <;> simp [get, h]
    · split
      · rename_i h1 h2
        subst h2
        by_cases h : t = u <;> simp [get, h]
      · rename_i h1 h2
        simp only [get, ih]
        by_cases h : t = u
        · subst h; simp [Ne.symm h2]
        · simp [h]
theorem get_eraseE (e : Env) (t u : Nat) : get (eraseE e t) u = if t = u then .undef else get e u := by
  induction e with
  | nil => by_cases h : t = u <;> simp [eraseE, get, h]
  | cons p r ih =>
    obtain ⟨k, x⟩ := p
    simp only [eraseE]
    split
    · rename_i h; subst h
      rw [ih]
      by_cases h : k = u <;> simp [get, h]
    · rename_i h
      simp only [get, ih]
      by_cases h' : t = u
      · subst h'; simp [h]
      · simp [h']
theorem get_killPlaced (e : Env) (u : Nat) : get (killPlaced e) u = if (get e u).placed then .undef else get e u := by
  induction e with
  | nil => simp [killPlaced, get, AV.placed]
  | cons p r ih =>
    obtain ⟨k, x⟩ := p
    simp only [killPlaced]
    by_cases hx : x.placed = true
    · simp only [hx, if_true, get_eraseE, get]
      by_cases h : k = u
      · simp [h, hx]
      · simp [h, ih]
    · simp only [hx, Bool.false_eq_true, if_false, get]
      by_cases h : k = u
      · simp [h, hx]
      · simp [h, ih]

theorem get_killAt (t : Nat) (e : Env) (u : Nat) : get (killAt t e) u = if (get e u).sitsAt t then .undef else get e u := by
  induction e with
  | nil => simp [killAt, get, AV.sitsAt]
  | cons p r ih =>
    obtain ⟨k, x⟩ := p
    simp only [killAt]
    by_cases hx : x.sitsAt t = true
    · simp only [hx, if_true, get_eraseE, get]
      by_cases h : k = u
      · simp [h, hx]
      · simp [h, ih]
    · simp only [hx, Bool.false_eq_true, if_false, get]
      by_cases h : k = u
      · simp [h, hx]
      · simp [h, ih]
theorem sitsAt_placed {t : Nat} {v : AV} (h : v.sitsAt t = true) : v.placed = true := by
  unfold AV.sitsAt at h
  split at h
  · rfl
  · rfl
  · cases h
theorem sitsAt_of {t : Nat} {v : AV} (h : v.placed = false) : v.sitsAt t = false := by
  cases hs : v.sitsAt t with
  | false => rfl
  | true => rw [sitsAt_placed hs] at h; cases h
theorem sits_loc {t : Nat} {p : Place} (h : (AV.loc p).sitsAt t = false) : p ≠ .slot t := by
  rintro rfl; simp [AV.sitsAt] at h
theorem sits_elt {t i off : Nat} {p : Place} (h : (AV.elt p i off).sitsAt t = false) : p ≠ .slot t := by
  rintro rfl; simp [AV.sitsAt] at h

theorem get_putE (e : Env) (t u : Nat) (v : AV) : get (putE e t v) u =
    if t = u then v else if ((get e t).isOwn || v.isOwn) && (get e u).sitsAt t then .undef else get e u := by
  have key : ∀ b : Bool, get (if b = true then killAt t e else e) u = if b && (get e u).sitsAt t then .undef else get e u := by
    intro b; cases b <;> simp [get_killAt]
  cases v with
  | undef => rw [show AV.undef.isOwn = false from rfl, Bool.or_false]; simp only [putE, get_eraseE, key]
  | own xs l => rw [show (AV.own xs l).isOwn = true from rfl, Bool.or_true]; simp only [putE, get_setE, get_killAt, Bool.true_and]
  | skipped => rw [show AV.skipped.isOwn = false from rfl, Bool.or_false]; simp only [putE, get_setE, key]
  | d x => rw [show (AV.d x).isOwn = false from rfl, Bool.or_false]; simp only [putE, get_setE, key]
  | loc p => rw [show (AV.loc p).isOwn = false from rfl, Bool.or_false]; simp only [putE, get_setE, key]
  | elt p i off => rw [show (AV.elt p i off).isOwn = false from rfl, Bool.or_false]; simp only [putE, get_setE, key]
  | ptr o off => rw [show (AV.ptr o off).isOwn = false from rfl, Bool.or_false]; simp only [putE, get_setE, key]
  | view cs => rw [show (AV.view cs).isOwn = false from rfl, Bool.or_false]; simp only [putE, get_setE, key]
  | fn f cs => rw [show (AV.fn f cs).isOwn = false from rfl, Bool.or_false]; simp only [putE, get_setE, key]
  | agg cs => rw [show (AV.agg cs).isOwn = false from rfl, Bool.or_false]; simp only [putE, get_setE, key]
  | tup cs => rw [show (AV.tup cs).isOwn = false from rfl, Bool.or_false]; simp only [putE, get_setE, key]

/-! ### Ownership passed on -/

/-- Labels are changed or given up. -/
def Cx.remap (X : Cx) (φ : Loc → Option Loc) : Cx :=
  { X with G := fun b => match X.G b with | some (l, k) => (φ l).map fun l' => (l', k) | none => none }

theorem Cx.remap_some {X : Cx} {φ : Loc → Option Loc} {b : Nat} {l : Loc} {k : Nat} (h : X.G b = some (l, k)) : (X.remap φ).G b = (φ l).map fun l' => (l', k) := by simp [Cx.remap, h]

theorem Ext.remap (X : Cx) (w : World) (φ : Loc → Option Loc) : Ext X w (X.remap φ) w := by
  refine ⟨rfl, Nat.le_refl _, rfl, rfl, rfl, fun b _ h => ⟨by simp [Cx.remap, h], rfl⟩, fun b l k h => ⟨fun l' k' h' => ?_, fun _ _ => rfl⟩⟩
  rw [Cx.remap_some h] at h'
  cases hl : φ l with
  | none => simp [hl] at h'
  | some l1 => simp [hl] at h'; omega

/-- An owned slice whose label is given up reads as a list that nobody writes. -/
theorem OwnOk.frozen {X : Cx} {w : World} {l : Loc} {xs : List D} {lt : Bool} {v : Value} {φ : Loc → Option Loc} (hφ : φ l = none)
    (hamb : ∀ b l k, X.G b = some (l, k) → ∀ o, X.amb b o) (ho : OwnOk w X l xs lt v) : Rep w (X.remap φ).imm (.list xs) v := by
  rcases ho with ⟨rfl, a, rfl⟩ | ⟨_, h2, _⟩ | ⟨b, cap, cur, e, sz, rfl, hg, hw, hs, hz, hne, hsz, hc, hm, hr⟩
  · exact .empty a 0
  · exact (Ext.remap X w φ).rep h2
  · have hx : (X.remap φ).G b = none := by rw [Cx.remap_some hg, hφ]; rfl
    refine .list xs b 0 cap sz (fun i j => cur.getD (i * sz + j) undef) hs hc (fun i x hx' j c hj => ?_) (fun i x hx' j c hj => ?_)
    · obtain ⟨u, hu, _⟩ := hr i x hx' j c hj
      refine ⟨?_, hamb b _ _ hg _, fun l k e => by rw [hx] at e; cases e⟩
      rw [Nat.zero_add, cell_of_row w b _ cur e (0, 0) hw, hu]
      simp [Array.getD_eq_getD_getElem?, hu]
    · obtain ⟨u, hu, hru⟩ := hr i x hx' j c hj
      have : cur.getD (i * sz + j) undef = u := by simp [Array.getD_eq_getD_getElem?, hu]
      rw [this]
      exact (Ext.remap X w φ).rep hru

/-- The lock of one block is raised. -/
def Cx.lockAt (X : Cx) (b : Nat) (l : Loc) (k : Nat) : Cx := { X with G := fun b' => if b' = b then some (l, k) else X.G b' }


/-- The labels that are in use: a frame's slots, the variables, their cells. -/
def Loc.fixed : Loc → Bool
  | .res _ => false
  | _ => true

/-- The background changes: new blocks, draws; every label that the state uses stays. -/
theorem Rel.bg {E : Env0} {X X' : Cx} {s : St} {a : Act} {w w' : World} (h : Rel E X s a w) (hE : Ext X w X' w') (hmu : X'.mu = X.mu)
    (hk : ∀ l, l.fixed = true → (∀ t j, l = .slot t j → get s.env t ≠ .undef) → (∀ o j, l = .cell o j → cellOf s.heap o j ≠ .undef) → KeptAt X w X' w' l) (hd : ∀ b l k, X'.G b = some (l, k) → b < w'.heap.size ∧ ∀ o, X'.amb b o) : Rel E X' s a w' := by
  have hm : ∀ (o : Nat) b, X.mu[o]? = some b → X'.mu[o]? = some b := fun o b e => by rw [hmu]; exact e
  have hcell : ∀ o off u, cval X a w (.cell o off) = some u → (s.heap[o]?).isSome = true → cval X' a w' (.cell o off) = some u := by
    intro o off u hu hs
    simp only [cval, hmu] at hu ⊢
    cases hcs : s.heap[o]? with
    | none => rw [hcs] at hs; cases hs
    | some cs =>
      obtain ⟨b, cur, e, hb, hg, hw, _⟩ := h.heap o cs hcs
      simp only [hb] at hu ⊢
      rw [cell?_of_heap (hk (.blk o) rfl (by simp) (by simp) b 0 hg).2]
      exact hu
  have hown : ∀ o off, (content s (.cell o off)).isOwn = true → (s.heap[o]?).isSome = true := by
    intro o off ho
    simp only [content, cellOf] at ho
    cases hcs : s.heap[o]? with
    | none => rw [hcs] at ho; cases ho
    | some cs => rfl
  refine ⟨fun t => ?_, h.bound, by rw [hmu]; exact h.mu, fun o cs hcs => ?_, fun b l k e => (hd b l k e).1, fun b o hb => by rw [hE.amb]; exact h.amb b o (Nat.le_trans hE.size hb), fun b l k e => (hd b l k e).2, fun g cs hg j c hj => ?_, h.defers⟩
  · have ht := h.env t
    generalize hgt : get s.env t = v at ht
    cases v with
    | undef => trivial
    | loc p =>
      refine ⟨ht.1, fun ho => ?_⟩
      cases p with
      | slot u => exact ht.2 ho
      | cell o off => exact hcell o off _ (ht.2 ho) (hown o off ho)
    | elt p i off =>
      refine ⟨ht.1, fun xs l hc => ?_⟩
      obtain ⟨b, o0, n, cap, sz, h1, h2, h3⟩ := ht.2 xs l hc
      refine ⟨b, o0, n, cap, sz, ?_, h2, h3⟩
      cases p with
      | slot u => exact h1
      | cell o off => exact hcell o off _ h1 (hown o off (by rw [hc]; rfl))
    | _ => exact RVe_of_RVs (RVs.ext hE hm (fun j b k e => hk (.slot t j) rfl (by rintro t' j' e'; cases e'; rw [hgt]; simp) (by simp) b k e) (RVs_of_RVe rfl ht))
  · obtain ⟨b, cur, e, hb, hg, hw, hn, hh⟩ := h.heap o cs hcs
    obtain ⟨g1, g2⟩ := hk (.blk o) rfl (by simp) (by simp) b 0 hg
    refine ⟨b, cur, e, hm o b hb, g1, g2.trans hw, hn, fun j c hj => ⟨?_, trivial⟩⟩
    by_cases hcu : c = .undef
    · subst hcu; trivial
    · exact RVl.ext hE hm (fun b k e => hk (.cell o j) rfl (by simp) (by rintro o' j' e'; cases e'; simp only [cellOf, hcs, hj]; exact hcu) b k e) (hh j c hj).1
  · obtain ⟨u, h1, h2, h3⟩ := h.glob g cs hg j c hj
    exact ⟨u, (hE.point h1 h2).1, (hE.point h1 h2).2, hE.rep h3⟩

theorem getD_put (a : Act) (t u : Nat) (v : Value) (h : t < a.tmps.size) : (a.put (some t) v).tmps.getD u undef = if t = u then v else a.tmps.getD u undef := by
  simp only [Act.put, Array.getD_eq_getD_getElem?]
  by_cases e : t = u
  · subst e; simp [h]
  · simp [e]
theorem get_put (a : Act) (t u : Nat) (v : Value) (h : t ≠ u) : (a.put (some t) v).tmps[u]? = a.tmps[u]? := by
  simp [Act.put, h]

/-- A value is put into a slot. -/
theorem Rel.put {E : Env0} {X : Cx} {s : St} {a : Act} {w : World} (h : Rel E X s a w) {t : Nat} (ht : t < a.tmps.size) {v : AV} {val : Value} (hv : RVe X s a w .res v val) :
    ∃ X', X'.mu = X.mu ∧ Ext X w X' w ∧ Rel E X' (s.put (some t) v) (a.put (some t) val) w := by
  let φ : Loc → Option Loc := fun
    | .slot t' j => if t' = t then none else some (.slot t' j)
    | .res j => some (.slot t j)
    | l => some l
  have hE := Ext.remap X w φ
  have hm : ∀ (o : Nat) b, X.mu[o]? = some b → (X.remap φ).mu[o]? = some b := fun o b e => e
  have hk : ∀ l, (∀ j, l ≠ .res j) → (∀ j, l ≠ .slot t j) → KeptAt X w (X.remap φ) w l := by
    intro l h1 h2 b k e
    refine ⟨?_, rfl⟩
    rw [Cx.remap_some e]
    cases l with
    | slot t' j =>
      have : t' ≠ t := fun e => h2 j (by rw [e])
      simp [φ, this]
    | res j => exact absurd rfl (h1 j)
    | _ => rfl
  have hcv : ∀ p, p ≠ .slot t → cval (X.remap φ) (a.put (some t) val) w p = cval X a w p := by
    intro p hp
    cases p with
    | slot u => exact get_put a t u val (fun e => hp (by rw [e]))
    | cell o off => rfl
  have hct : ∀ p, p ≠ .slot t → (content (s.put (some t) v) p).isOwn = true → content (s.put (some t) v) p = content s p := by
    intro p hp ho
    cases p with
    | slot u =>
      simp only [content, St.put, get_putE] at ho ⊢
      have : t ≠ u := fun e => hp (by rw [e])
      simp only [this, if_false] at ho ⊢
      split at ho
      · cases ho
      · rename_i hn; simp only [hn]; rfl
    | cell o off => rfl
  -- an entry that speaks of a place still speaks truly
  have hplaced : ∀ (u : Nat) (c : AV) (x : Value), c.placed = true → (∀ p, (c = .loc p ∨ ∃ i off, c = .elt p i off) → p = .slot t → v.isOwn = false) →
      RVe X s a w (.slot u) c x → ∀ L, RVe (X.remap φ) (s.put (some t) v) (a.put (some t) val) w L c x := by
    intro u c x hp hno hc L
    cases c with
    | loc p =>
      refine ⟨hc.1, fun ho => ?_⟩
      by_cases e : p = .slot t
      · have hf := hno p (.inl rfl) e
        subst e
        simp only [content, St.put, get_putE, if_true] at ho
        rw [ho] at hf
        cases hf
      · rw [hcv p e]
        exact hc.2 (by rw [← hct p e ho]; exact ho)
    | elt p i off =>
      refine ⟨hc.1, fun xs l hcc => ?_⟩
      by_cases e : p = .slot t
      · have hf := hno p (.inr ⟨i, off, rfl⟩) e
        subst e
        simp only [content, St.put, get_putE, if_true] at hcc
        rw [hcc] at hf
        simp [AV.isOwn] at hf
      · rw [hcv p e]
        exact hc.2 xs l (by rw [← hct p e (by rw [hcc]; rfl)]; exact hcc)
    | _ => cases hp
  refine ⟨X.remap φ, rfl, hE, ⟨fun u => ?_, fun u hu => ?_, h.mu, fun o cs hcs => ?_, fun b l k e => ?_, h.amb, fun b l k e => ?_, fun g cs hg j c hj => ?_, by simpa [Act.put] using h.defers⟩⟩
  · rw [getD_put a t u val ht]
    simp only [St.put, get_putE]
    by_cases e : t = u
    · subst e
      simp only [if_true]
      by_cases hp : v.placed = true
      · refine hplaced t v val hp (fun p _ _ => by cases v <;> first | rfl | cases hp) ?_ _
        cases v with
        | loc p => exact hv
        | elt p i off => exact hv
        | _ => cases hp
      · exact RVe_of_RVs (RVs.ext hE hm (fun j b k e => ⟨by rw [Cx.remap_some e]; rfl, rfl⟩) (RVs_of_RVe (by simpa using hp) hv))
    · simp only [e, if_false]
      by_cases hkill : (((get s.env t).isOwn || v.isOwn) && (get s.env u).sitsAt t) = true
      · simp only [hkill, if_true]; exact trivial
      · simp only [hkill]
        have hu := h.env u
        generalize hc : get s.env u = c at hu hkill
        by_cases hp : c.placed = true
        · refine hplaced u c _ hp (fun p hcp hpt => ?_) hu _
          have hsit : c.sitsAt t = true := by
            subst hpt
            rcases hcp with rfl | ⟨i, off, rfl⟩ <;> simp [AV.sitsAt]
          rw [hsit, Bool.and_true] at hkill
          simp only [Bool.or_eq_true, not_or, Bool.not_eq_true] at hkill
          exact hkill.2
        · have hp' : c.placed = false := by simpa using hp
          exact RVe_of_RVs (RVs.ext hE hm (fun j b k e' => hk (.slot u j) (fun _ => by simp) (fun _ => by simp; exact fun e2 => absurd e2.symm e) b k e') (RVs_of_RVe hp' hu))
  · rw [show (a.put (some t) val).tmps.size = a.tmps.size by simp [Act.put]]
    obtain ⟨c, hc, hne⟩ := hu
    simp only [St.put, get_putE] at hc
    by_cases e : t = u
    · subst e; exact ht
    · simp only [e, if_false] at hc
      split at hc
      · exact absurd hc.symm hne
      · exact h.bound u ⟨c, hc, hne⟩
  · obtain ⟨b, cur, e, hb, hg, hw, hn, hh⟩ := h.heap o cs hcs
    exact ⟨b, cur, e, hb, (hk (.blk o) (fun _ => by simp) (fun _ => by simp) b 0 hg).1, hw, hn, fun j c hj => ⟨RVl.ext hE hm (fun b k e => hk (.cell o j) (fun _ => by simp) (fun _ => by simp) b k e) (hh j c hj).1, (hh j c hj).2⟩⟩
  · simp only [Cx.remap] at e
    split at e
    · rename_i l0 k0 h0; exact h.gdom b l0 k0 h0
    · cases e
  · simp only [Cx.remap] at e
    split at e
    · rename_i l0 k0 h0; exact h.oamb b l0 k0 h0
    · cases e
  · obtain ⟨u, h1, h2, h3⟩ := h.glob g cs hg j c hj
    exact ⟨u, (hE.point h1 h2).1, (hE.point h1 h2).2, hE.rep h3⟩

end Go.Ab
