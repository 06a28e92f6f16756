/- A call, from the inside and from the outside. -/
import Derived.Test.YtfemjbmfpnpjfaaDoorAbsLeave
namespace Go.Ab

variable {E : Env0} {X : Cx} {s : St} {a : Act} {w : World}

/-- A function as such: from the variables and the arguments it is handed. -/
def CallOk (E : Env0) (n : Nat) : Prop :=
  ∀ (h : FuncId) (vs : List AV) (hp : Heap) (v : AV) (hp' : Heap), call E n h vs hp = some (v, hp') → ∀ (X : Cx) (w : World) (args : Array Value), HRel E X hp w → ArgRel w X vs args →
    Calls E.P h args w fun e w1 => ∃ val, e = .returned val ∧ ∃ X1, (∃ more, X1.mu = X.mu ++ more) ∧ Ext X w X1 w1 ∧ HRel E X1 hp' w1 ∧ ResRel w1 X1 v val

def FuncsOk (E : Env0) (check : Nat → Nat → Array Oper → Bool) : Prop :=
  ∀ h, E.ok h = true → ∃ fn c, E.P.funcs[h]? = some fn ∧ fn.body = some c ∧ fn.name ≠ "runtime.NumGoroutine" ∧ codeOk check h fn.ntmps c = true

theorem get_bindArgs : ∀ (vs : List AV) (k t : Nat), get (bindArgs k vs) t = if k ≤ t then (vs[t - k]?).getD .undef else .undef
  | [], k, t => by simp [bindArgs, get]
  | v :: r, k, t => by
    simp only [bindArgs, get]
    split
    · rename_i h; subst h; simp
    · rename_i h
      rw [get_bindArgs r (k + 1) t]
      by_cases hk : k ≤ t
      · have : t - k = (t - (k + 1)) + 1 := by omega
        rw [if_pos (by omega), if_pos hk, this]; simp
      · rw [if_neg (by omega), if_neg hk]

theorem call_sound {check : Nat → Nat → Array Oper → Bool} (hb : FuncsOk E check) (hd : DrawOk E check) {n : Nat} (hcall : ∀ m, m < n → CallAOk E m) : CallOk E (n + 1) := by
  intro h vs hp v hp' hc X w args hR hargs
  simp only [call] at hc
  split at hc
  · rename_i hok
    obtain ⟨fn, c, hf, hbody, hname, hcode⟩ := hb h hok
    simp only [hf, hbody] at hc
    split at hc
    · rename_i hle
      refine calls_of_wp hf hbody ?_
      have hsz : (args ++ Array.replicate (fn.ntmps - args.size) undef).size = fn.ntmps := by
        have := hargs.1
        simp; omega
      have hR0 : Rel E X { env := bindArgs 0 vs, heap := hp } { tmps := args ++ Array.replicate (fn.ntmps - args.size) undef, defers := [] } w := by
        refine ⟨fun t => ?_, fun t ht => ?_, hR.mu, hR.heap, hR.gdom, hR.amb, hR.oamb, hR.glob, rfl⟩
        · show RVe _ _ _ _ _ (get (bindArgs 0 vs) t) _
          rw [get_bindArgs]
          simp only [Nat.zero_le, if_true, Nat.sub_zero]
          cases hv : vs[t]? with
          | none => trivial
          | some u =>
            obtain ⟨g1, g2⟩ := hargs.2 t u hv
            have hlt : t < args.size := by rw [hargs.1]; exact (List.getElem?_eq_some_iff.1 hv).1
            have e : (args ++ Array.replicate (fn.ntmps - args.size) undef).getD t undef = args.getD t undef := by
              simp [Array.getD_eq_getD_getElem?, Array.getElem?_append_left hlt]
            simp only [Option.getD_some]
            rw [e]
            exact RVe_of_RVs (RVs_leaf (RVl.copy g1 g2))
        · obtain ⟨u, hu, hne⟩ := ht
          rw [hsz]
          have hu' : get (bindArgs 0 vs) t = u := hu
          rw [get_bindArgs] at hu'
          simp only [Nat.zero_le, if_true, Nat.sub_zero] at hu'
          cases hv : vs[t]? with
          | none => rw [hv] at hu'; exact absurd hu'.symm hne
          | some u' => exact Nat.lt_of_lt_of_le (List.getElem?_eq_some_iff.1 hv).1 hle
      have hb' : BodyOk E := fun h hk => let ⟨fn, c, g1, g2, g3, _⟩ := hb h hk; ⟨fn, c, g1, g2, g3⟩
      cases hex : exec E h n c { env := bindArgs 0 vs, heap := hp } with
      | none => simp [hex] at hc
      | some q =>
        obtain ⟨r, s1⟩ := q
        have hw := (exec_sound hb' hd n hcall).1 h c _ s1 r hex X _ w (by rw [hsz]; exact hcode) hR0
        refine wp_mono hw ?_
        rintro e a1 w1 ⟨rfl, hsz1, X1, ⟨more, hm⟩, hE, hR1⟩
        have fin : leave E.P fn hp.length s1 = some (v, hp') → a1.defers = [] ∧ ∃ val, (results fn a1.tmps).run E.P w1 = .ok val w1 ∧ ∃ val', Ending.returned val = .returned val' ∧ ∃ X2, (∃ more, X2.mu = X.mu ++ more) ∧ Ext X w X2 w1 ∧ HRel E X2 hp' w1 ∧ ResRel w1 X2 v val' := by
          intro hl
          have hk : hp.length ≤ s1.heap.length := by
            rw [← hR1.mu, hm, List.length_append, show X.mu.length = hp.length from hR.mu]; omega
          obtain ⟨val, g1, X2, g2, g3, g4, g5, g6⟩ := leave_sound hR1 hk hl
          refine ⟨hR1.defers, val, g1, val, rfl, X2, ⟨more.take (hp'.length - hp.length), ?_⟩, Ext.trans hR.gdom hE g4, g5, g6⟩
          rw [g2, hm, List.take_append, show X.mu.length = hp.length from hR.mu, List.take_of_length_le (by rw [show X.mu.length = hp.length from hR.mu]; exact g3)]
        rw [hex] at hc
        cases r with
        | normal => exact fin hc
        | ret => exact fin hc
        | exit id => cases hc
    · cases hc
  · cases hc

/-! From the outside. -/

def labIn (objs : List Nat) : Loc → Option Loc
  | .blk o => if o ∈ objs then some (.blk (objs.idxOf o)) else none
  | .cell o j => if o ∈ objs then some (.cell (objs.idxOf o) j) else none
  | _ => none
def labOut (back : Nat → Nat) : Loc → Option Loc
  | .blk i => some (.blk (back i))
  | .cell i j => some (.cell (back i) j)
  | _ => none

/-- What a callee sees. -/
def Cx.into (X : Cx) (w : World) (objs : List Nat) : Cx :=
  { mu := objs.map fun o => X.mu.getD o 0
    G := (X.remap (labIn objs)).G
    amb := fun b o => X.imm b o ∨ w.heap.size ≤ b ∨ ((X.remap (labIn objs)).G b).isSome = true }

/-- What the caller sees behind. -/
def Cx.outOf (X : Cx) (w : World) (objs : List Nat) (back : Nat → Nat) (X1 : Cx) : Cx :=
  { mu := X.mu ++ X1.mu.drop objs.length
    G := fun b => if decide (b < w.heap.size) && ((X.into w objs).G b).isNone then X.G b else (X1.remap (labOut back)).G b
    amb := X.amb }

theorem remap_back {X : Cx} {φ : Loc → Option Loc} {b : Nat} {l : Loc} {k : Nat} (h : (X.remap φ).G b = some (l, k)) : ∃ l0, X.G b = some (l0, k) ∧ φ l0 = some l := by
  simp only [Cx.remap] at h
  split at h
  · rename_i l0 k0 h0
    cases hl : φ l0 with
    | none => simp [hl] at h
    | some l1 => simp [hl] at h; obtain ⟨rfl, rfl⟩ := h; exact ⟨l0, h0, hl⟩
  · cases h

theorem into_imm {objs : List Nat} {b o : Nat} (h : X.imm b o) : (X.into w objs).imm b o :=
  ⟨.inl h, fun l k e => let ⟨l0, h0, _⟩ := remap_back e; h.2 l0 k h0⟩

theorem into_rep {objs : List Nat} {d : D} {v : Value} (h : Rep w X.imm d v) : Rep w (X.into w objs).imm d v := h.mono fun _ _ _ h1 h2 => ⟨h1, into_imm h2⟩

section outside
variable {objs : List Nat}

theorem into_mu (hn : objs.Nodup) {p b : Nat} (hp : p ∈ objs) (hb : X.mu[p]? = some b) : (X.into w objs).mu[objs.idxOf p]? = some b := by
  show (objs.map fun o => X.mu.getD o 0)[objs.idxOf p]? = some b
  rw [List.getElem?_map, idx_get hp]
  simp [List.getD_eq_getElem?_getD, hb]

theorem into_H (h : Rel E X s a w) (hn : objs.Nodup) (hcl : ∀ o ∈ objs, ∀ cs, s.heap[o]? = some cs → ∀ c ∈ cs, ∀ p ∈ ptrsOf c, p ∈ objs) {hs : Heap} (hhs : cellsAt s.heap objs = some hs) :
    HRel E (X.into w objs) (hs.map fun cs => cs.map (renAV (objs.idxOf ·))) w := by
  obtain ⟨hlen, hget⟩ := cellsAt_spec hhs
  refine ⟨fun t => trivial, fun t ht => ?_, ?_, fun i cs' hcs' => ?_, fun b l k e => ?_, fun b o hb => .inr (.inl hb), fun b l k e o => .inr (.inr (by show ((X.into w objs).G b).isSome = true; rw [e]; rfl)), fun g cs hg j c hj => ?_, rfl⟩
  · obtain ⟨v, hv, hne⟩ := ht
    exact absurd hv.symm hne
  · show (objs.map _).length = (hs.map _).length
    simp [hlen]
  · have hi : i < objs.length := by
      have := (List.getElem?_eq_some_iff.1 hcs').1
      simp [hlen] at this; exact this
    obtain ⟨cs, h1, h2⟩ := hget i objs[i] (by simp [hi])
    have hio : objs.idxOf objs[i] = i := idx_of hn (by simp [hi])
    have hmem : objs[i] ∈ objs := List.getElem_mem hi
    have e : cs' = cs.map (renAV (objs.idxOf ·)) := by
      have := hcs'
      simp only [List.getElem?_map, h2, Option.map_some, Option.some.injEq] at this
      exact this.symm
    subst e
    obtain ⟨b, cur, e, g1, g2, g3, g4, g5⟩ := h.heap objs[i] cs h1
    refine ⟨b, cur, e, ?_, ?_, g3, by simpa using g4, fun j c hj => ⟨?_, trivial⟩⟩
    · have := into_mu (w := w) hn hmem g1
      rwa [hio] at this
    · show (X.remap (labIn objs)).G b = _
      rw [Cx.remap_some g2]
      simp only [labIn, hmem, if_true, Option.map_some, hio]
    · rw [List.getElem?_map] at hj
      cases hc : cs[j]? with
      | none => rw [hc] at hj; cases hj
      | some c0 =>
        rw [hc] at hj
        simp only [Option.map_some, Option.some.injEq] at hj
        subst hj
        refine RVl.ren (fun d u hr => into_rep hr) (fun b o u h1 h2 => ⟨h1, into_imm h2⟩) (fun p hp b hb => into_mu hn (hcl _ hmem cs h1 c0 (List.mem_of_getElem? hc) p hp) hb) (fun _ b k e => ⟨?_, rfl⟩) (g5 j c0 hc).1
        show (X.remap (labIn objs)).G b = _
        rw [Cx.remap_some e]
        simp only [labIn, hmem, if_true, Option.map_some, hio]
  · obtain ⟨l0, h0, _⟩ := remap_back (X := X) (φ := labIn objs) e
    exact h.gdom b l0 k h0
  · obtain ⟨u, h1, h2, h3⟩ := h.glob g cs hg j c hj
    exact ⟨u, h1, into_imm h2, into_rep h3⟩

theorem into_args (hn : objs.Nodup) {vs : List AV} {args : Array Value} (h : ArgRel w X vs args) (hp : ∀ v ∈ vs, ∀ p ∈ ptrsOf v, p ∈ objs) : ArgRel w (X.into w objs) (vs.map (renAV (objs.idxOf ·))) args := by
  refine ⟨by simpa using h.1, fun i v hi => ?_⟩
  rw [List.getElem?_map] at hi
  cases hv : vs[i]? with
  | none => rw [hv] at hi; cases hi
  | some u =>
    rw [hv] at hi
    simp only [Option.map_some, Option.some.injEq] at hi
    subst hi
    obtain ⟨g1, g2⟩ := h.2 i u hv
    have g3 : (renAV (fun x => objs.idxOf x) u).isOwn = false := by
      cases u <;> first | rfl | cases g1
    refine ⟨g3, ?_⟩
    exact RVl.ren (fun d u hr => into_rep hr) (fun b o u h1 h2 => ⟨h1, into_imm h2⟩) (fun p hpp b hb => into_mu hn (hp u (List.mem_of_getElem? hv) p hpp) hb) (fun ho => by rw [g1] at ho; cases ho) g2

end outside
end Go.Ab
