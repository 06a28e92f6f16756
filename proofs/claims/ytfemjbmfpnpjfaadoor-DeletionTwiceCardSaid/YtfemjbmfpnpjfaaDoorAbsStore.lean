/- Stores. -/
import Derived.Test.YtfemjbmfpnpjfaaDoorAbsNew
namespace Go.Ab

def φres : Loc → Option Loc
  | .res _ => none
  | l => some l

theorem Rel.dropRes {E : Env0} {X : Cx} {s : St} {a : Act} {w : World} (h : Rel E X s a w) : Rel E (X.remap φres) s a w := by
  refine h.bg (Ext.remap X w φres) rfl (fun l hl _ _ b k hx => ⟨?_, rfl⟩) (fun b l k hx => ?_)
  · rw [Cx.remap_some hx]
    cases l <;> first | rfl | cases hl
  · simp only [Cx.remap] at hx
    split at hx
    · rename_i l0 k0 h0
      exact ⟨h.gdom b l0 k0 h0, h.oamb b l0 k0 h0⟩
    · cases hx

theorem RVl.frozen {E : Env0} {X : Cx} {s : St} {a : Act} {w : World} (h : Rel E X s a w) {j : Nat} {c : AV} {u : Value} {d : D} (hr : RVl w X (.res j) c u) (hf : freezeLeaf c = some d) : Rep w (X.remap φres).imm d u := by
  cases c <;> simp [freezeLeaf] at hf
  · subst hf; exact (Ext.remap X w φres).rep hr
  · subst hf; exact OwnOk.frozen (φ := φres) rfl h.oamb hr

theorem cell_setRow {w : World} {g : Nat} {old : Array Value} {t : TypeId} {fr : Nat × Nat} (hg : w.heap[g]? = some (.cells old t fr)) (cs : Array Value) (j : Nat) : (w.setRow g cs).cell? ⟨g, j, none⟩ = cs[j]? :=
  cell_of_row _ g j cs t fr (setRow_heap w g old cs t fr hg)

theorem splice_get (l us : List Value) (o j : Nat) (h : o + us.length ≤ l.length) : (l.take o ++ us ++ l.drop (o + us.length))[j]? = if o ≤ j ∧ j < o + us.length then us[j - o]? else l[j]? := by
  by_cases h1 : j < o
  · rw [if_neg (by omega), List.append_assoc, List.getElem?_append_left (by simp; omega), List.getElem?_take, if_pos h1]
  · by_cases h2 : j < o + us.length
    · rw [if_pos ⟨by omega, h2⟩, List.append_assoc, List.getElem?_append_right (by simp; omega), List.getElem?_append_left (by simp; omega)]
      congr 1
      simp; omega
    · rw [if_neg (by omega), List.getElem?_append_right (by simp; omega), List.getElem?_drop]
      congr 1
      simp; omega

theorem splice_getA (l us : List AV) (o j : Nat) (h : o + us.length ≤ l.length) : (l.take o ++ us ++ l.drop (o + us.length))[j]? = if o ≤ j ∧ j < o + us.length then us[j - o]? else l[j]? := by
  by_cases h1 : j < o
  · rw [if_neg (by omega), List.append_assoc, List.getElem?_append_left (by simp; omega), List.getElem?_take, if_pos h1]
  · by_cases h2 : j < o + us.length
    · rw [if_pos ⟨by omega, h2⟩, List.append_assoc, List.getElem?_append_right (by simp; omega), List.getElem?_append_left (by simp; omega)]
      congr 1
      simp; omega
    · rw [if_neg (by omega), List.getElem?_append_right (by simp; omega), List.getElem?_drop]
      congr 1
      simp; omega

/-- Cells of a variable are written: what is moved in lies at 'res'. -/
theorem Rel.writeVar {E : Env0} {X : Cx} {s : St} {a : Act} {w : World} (h : Rel E X s a w) {o off : Nat} {cs vs : List AV} {us : List Value} {b : Nat} {cur : Array Value} {e : TypeId}
    (hcs : s.heap[o]? = some cs) (hle : off + vs.length ≤ cs.length) (hlen : us.length = vs.length) (hb : X.mu[o]? = some b) (hw : w.heap[b]? = some (.cells cur e (0, 0)))
    (hh : ∀ (j : Nat) c, vs[j]? = some c → RVl w X (.res j) c (us.getD j undef)) (env' : Env)
    (henv : ∀ t, get env' t = if ((cs.drop off).take vs.length ++ vs).any AV.isOwn && (get s.env t).placed then .undef else get s.env t) :
    ∃ X', X'.mu = X.mu ∧ Ext X w X' (w.setRow b (cur.toList.take off ++ us ++ cur.toList.drop (off + us.length)).toArray) ∧
      Rel E X' { env := env', heap := s.heap.set o (cs.take off ++ vs ++ cs.drop (off + vs.length)) } a (w.setRow b (cur.toList.take off ++ us ++ cur.toList.drop (off + us.length)).toArray) := by
  obtain ⟨b', cur', e', hb', hg, hw', hn, hh'⟩ := h.heap o cs hcs
  rw [hb] at hb'; cases hb'
  rw [hw] at hw'; cases hw'
  generalize hW : w.setRow b (cur.toList.take off ++ us ++ cur.toList.drop (off + us.length)).toArray = w'
  have hocs := (List.getElem?_eq_some_iff.1 hcs).1
  have hother : ∀ k, k ≠ b → w'.heap[k]? = w.heap[k]? := fun k hk => by rw [← hW]; exact setRow_other w b k _ hk
  have hnew : w'.heap[b]? = some (.cells (cur.toList.take off ++ us ++ cur.toList.drop (off + us.length)).toArray e (0, 0)) := by rw [← hW]; exact setRow_heap w b cur _ e _ hw
  have hcellat : ∀ j, w'.cell? ⟨b, j, none⟩ = if off ≤ j ∧ j < off + us.length then us[j - off]? else cur[j]? := by
    intro j
    rw [cell_of_row w' b j _ e (0, 0) hnew]
    have := splice_get cur.toList us off j (by simp; omega)
    simpa using this
  let φ : Loc → Option Loc := fun
    | .cell o' j => if o' = o ∧ off ≤ j ∧ j < off + vs.length then none else some (.cell o' j)
    | .res j => some (.cell o (off + j))
    | l => some l
  have hE : Ext X w (X.remap φ) w' := by
    have h0 := Ext.remap X w φ
    refine ⟨rfl, by rw [← hW]; simp, by rw [← hW]; rfl, by rw [← hW]; rfl, by rw [← hW]; rfl, fun k hk hx => ⟨(h0.free k hk hx).1, hother k (fun e => by rw [e, hg] at hx; cases hx)⟩, fun k l n hx => ⟨(h0.own k l n hx).1, fun q hq => ?_⟩⟩
    by_cases ek : k = b
    · subst ek
      rw [hg] at hx
      simp only [Option.some.injEq, Prod.mk.injEq] at hx
      omega
    · exact cell?_of_heap (hother k ek) q
  have hm : ∀ (o : Nat) b, X.mu[o]? = some b → (X.remap φ).mu[o]? = some b := fun o b e => e
  have hk : ∀ l, φ l = some l → l ≠ .blk o → KeptAt X w (X.remap φ) w' l := by
    intro l hl hne k n hx
    refine ⟨by rw [Cx.remap_some hx, hl]; rfl, hother k (fun e => ?_)⟩
    rw [e, hg] at hx
    simp only [Option.some.injEq, Prod.mk.injEq] at hx
    exact hne hx.1.symm
  have hGd : ∀ b' l k, (X.remap φ).G b' = some (l, k) → ∃ l0 k0, X.G b' = some (l0, k0) := by
    intro b' l k hx
    simp only [Cx.remap] at hx
    split at hx
    · rename_i l0 k0 h0; exact ⟨l0, k0, h0⟩
    · cases hx
  have hmuinj : ∀ o' : Nat, X.mu[o']? = some b → (s.heap[o']?).isSome = true → o' = o := by
    intro o' h1 h2
    cases hx : s.heap[o']? with
    | none => rw [hx] at h2; cases h2
    | some cs' =>
      obtain ⟨b2, _, _, g1, g2, _⟩ := h.heap o' cs' hx
      rw [h1] at g1; cases g1
      rw [hg] at g2
      simp only [Option.some.injEq, Prod.mk.injEq, Loc.blk.injEq] at g2
      exact g2.1.symm
  have hct : ∀ p, content { env := env', heap := s.heap.set o (cs.take off ++ vs ++ cs.drop (off + vs.length)) } p =
      match p with
      | .slot t => get env' t
      | .cell o' j => if o' = o then (if off ≤ j ∧ j < off + vs.length then (vs[j - off]?).getD .undef else (cs[j]?).getD .undef) else content s (.cell o' j) := by
    intro p
    cases p with
    | slot t => rfl
    | cell o' j =>
      simp only [content, cellOf, List.getElem?_set]
      by_cases e1 : o = o'
      · subst e1
        simp only [if_true, hocs]
        rw [splice_getA cs vs off j hle]
        split <;> rfl
      · have : o' ≠ o := fun e => e1 e.symm
        simp [e1, this]
  have hplaced : ∀ (c : AV) (x : Value) (L : Nat → Loc), c.placed = true → ((cs.drop off).take vs.length ++ vs).any AV.isOwn = false → RVe X s a w L c x →
      RVe (X.remap φ) { env := env', heap := s.heap.set o (cs.take off ++ vs ++ cs.drop (off + vs.length)) } a w' L c x := by
    intro c x L hp hno hc
    have hnoown : ∀ (y : AV), y ∈ vs → y.isOwn = false := fun y hy => by
      simp only [List.any_append, Bool.or_eq_false_iff, List.any_eq_false] at hno
      simpa using hno.2 y hy
    -- what an owned place holds now it held before
    have hown : ∀ p, (content { env := env', heap := s.heap.set o (cs.take off ++ vs ++ cs.drop (off + vs.length)) } p).isOwn = true → inR s p →
        content { env := env', heap := s.heap.set o (cs.take off ++ vs ++ cs.drop (off + vs.length)) } p = content s p ∧ cval (X.remap φ) a w' p = cval X a w p := by
      intro p hp' hin
      rw [hct] at hp' ⊢
      cases p with
      | slot t =>
        refine ⟨?_, rfl⟩
        simp only at hp' ⊢
        rw [henv, hno]; simp [content]
      | cell o' j =>
        simp only at hp' ⊢
        have ho' := hin o' j rfl
        by_cases e1 : o' = o
        · subst e1
          simp only [if_true] at hp' ⊢
          by_cases e2 : off ≤ j ∧ j < off + vs.length
          · simp only [e2, and_self, if_true] at hp'
            cases hv : vs[j - off]? with
            | none => rw [hv] at hp'; cases hp'
            | some y => rw [hv] at hp'; have := hnoown y (List.mem_of_getElem? hv); simp [this] at hp'
          · simp only [e2, if_false]
            refine ⟨by simp [content, cellOf, hcs], ?_⟩
            simp only [cval, hb, Cx.remap]
            rw [hcellat j, if_neg (by rw [hlen]; exact e2), cell_of_row w b j cur e (0, 0) hw]
        · simp only [e1, if_false]
          refine ⟨trivial, ?_⟩
          simp only [cval, Cx.remap]
          cases hx : X.mu[o']? with
          | none => rfl
          | some b2 =>
            simp only
            refine cell?_of_heap (hother b2 (fun e => e1 (hmuinj o' (by rw [hx, e]) (by simp [ho'])))) j
    have hin' : ∀ p, inR s p → inR { env := env', heap := s.heap.set o (cs.take off ++ vs ++ cs.drop (off + vs.length)) } p := fun p hp o' j e => by simpa using hp o' j e
    cases c with
    | loc p =>
      refine ⟨hin' p hc.1, fun ho => ?_⟩
      obtain ⟨e1, e2⟩ := hown p ho hc.1
      rw [e2]
      exact hc.2 (by rw [← e1]; exact ho)
    | elt p i q =>
      refine ⟨hin' p hc.1, fun xs l ho => ?_⟩
      obtain ⟨e1, e2⟩ := hown p (by rw [ho]; rfl) hc.1
      rw [e2]
      exact hc.2 xs l (by rw [← e1]; exact ho)
    | _ => cases hp
  refine ⟨X.remap φ, rfl, hE, ⟨fun t => ?_, fun t ht => ?_, by simpa [Cx.remap] using h.mu, fun o' cs' hcs' => ?_, fun b' l k hx => ?_, fun b' q hb' => h.amb b' q (by rw [← hW] at hb'; simpa using hb'), fun b' l k hx => ?_, fun g gs hg' j c hj => ?_, h.defers⟩⟩
  · show RVe _ _ a w' _ (get env' t) _
    rw [henv]
    have ht := h.env t
    by_cases hkill : (((cs.drop off).take vs.length ++ vs).any AV.isOwn && (get s.env t).placed) = true
    · rw [if_pos hkill]; trivial
    · rw [if_neg hkill]
      generalize get s.env t = c at ht hkill
      by_cases hp : c.placed = true
      · rw [hp, Bool.and_true] at hkill
        exact hplaced c _ _ hp (by simpa using hkill) ht
      · exact RVe_of_RVs (RVs.ext hE hm (fun j b k hx => hk (.slot t j) rfl (by simp) b k hx) (RVs_of_RVe (by simpa using hp) ht))
  · obtain ⟨c, hc, hne⟩ := ht
    have hc' : get env' t = c := hc
    rw [henv] at hc'
    split at hc'
    · exact absurd hc'.symm hne
    · exact h.bound t ⟨c, hc', hne⟩
  · simp only [List.getElem?_set] at hcs'
    by_cases e1 : o = o'
    · subst e1
      simp only [if_true, hocs, Option.some.injEq] at hcs'
      subst hcs'
      refine ⟨b, _, e, hb, by rw [Cx.remap_some hg]; rfl, hnew, by simp; omega, fun j c hj => ⟨?_, trivial⟩⟩
      have hval : (cur.toList.take off ++ us ++ cur.toList.drop (off + us.length)).toArray.getD j undef = (if off ≤ j ∧ j < off + us.length then us.getD (j - off) undef else cur.getD j undef) := by
        have := splice_get cur.toList us off j (by simp; omega)
        simp only [Array.getD_eq_getD_getElem?, List.getElem?_toArray, this]
        split <;> simp
      rw [hval]
      rw [splice_getA cs vs off j hle] at hj
      by_cases e2 : off ≤ j ∧ j < off + vs.length
      · rw [if_pos e2] at hj
        rw [if_pos (by rw [hlen]; exact e2)]
        refine RVl.ext hE hm (fun k n hx => ⟨by rw [Cx.remap_some hx]; simp [φ]; omega, hother k (fun e3 => ?_)⟩) (hh (j - off) c hj)
        rw [e3, hg] at hx
        simp at hx
      · rw [if_neg e2] at hj
        rw [if_neg (by rw [hlen]; exact e2)]
        refine RVl.ext hE hm (fun k n hx => hk (.cell o j) (by simp [φ]; omega) (by simp) k n hx) (hh' j c hj).1
    · simp only [e1, if_false] at hcs'
      obtain ⟨b2, cur2, e2, g1, g2, g3, g4, g5⟩ := h.heap o' cs' hcs'
      obtain ⟨k1, k2⟩ := hk (.blk o') rfl (by simp; exact fun e => e1 e.symm) b2 0 g2
      exact ⟨b2, cur2, e2, g1, k1, k2.trans g3, g4, fun j c hj => ⟨RVl.ext hE hm (fun k n hx => hk (.cell o' j) (by simp [φ]; exact fun e => absurd e.symm e1) (by simp) k n hx) (g5 j c hj).1, trivial⟩⟩
  · obtain ⟨l0, k0, h0⟩ := hGd b' l k hx
    rw [← hW]; simpa using h.gdom b' l0 k0 h0
  · obtain ⟨l0, k0, h0⟩ := hGd b' l k hx
    exact h.oamb b' l0 k0 h0
  · obtain ⟨u, h1, h2, h3⟩ := h.glob g gs hg' j c hj
    exact ⟨u, (hE.point h1 h2).1, (hE.point h1 h2).2, hE.rep h3⟩


theorem run_storeVar {P : Program} {w : World} {t : TypeId} {n b off : Nat} {val : Value} {cur : Array Value} {e : TypeId} (hn : tySize P t = some n) (hv : val.cells.size = n)
    (hw : w.heap[b]? = some (.cells cur e (0, 0))) (hle : off + n ≤ cur.size) (h1 : ∀ u ∈ val.cells, u.oneCell' = true) :
    (storeVar t ⟨b, off, none⟩ val).run P w = .ok () (w.setRow b (cur.toList.take off ++ val.cells.toList ++ cur.toList.drop (off + val.cells.toList.length)).toArray) := by
  have := run_storeCells_at (P := P) b off e val.cells.toList 0 cur w hw (by simp; omega) (fun v hv => h1 v (by simpa using hv))
  simp only [Nat.add_zero] at this
  simp [storeVar, run_sizeOf' hn, hv, this]

theorem leaf_oneCell {w : World} {X : Cx} {l : Loc} {c : AV} {u : Value} (hl : leafOk c = true) (h : RVl w X l c u) : u.oneCell' = true := by
  cases c with
  | d x =>
    have h' : Rep w X.imm x u := h
    cases h' with
    | v y h1 => exact h1
    | empty a c => rfl
    | list xs b off cap sz V hs hc hh hr => rfl
    | agg cs vs hn hr => cases hl
  | own xs lt =>
    rcases h with ⟨_, a, rfl⟩ | ⟨_, _, a, n, rfl⟩ | ⟨b, cap, cur, e1, sz, rfl, _⟩ <;> rfl
  | ptr o off => obtain ⟨b, hb, rfl⟩ := h; rfl
  | view cs => obtain ⟨b, off, rfl, _⟩ := h; rfl
  | fn f caps => obtain ⟨vs, rfl, _⟩ := h; rfl
  | _ => cases hl

/-- An element of what is owned at a place is written, as plain data. -/
theorem Rel.writeElt {E : Env0} {X : Cx} {s : St} {a : Act} {w : World} (h : Rel E X s a w) {p : Place} {xs : List D} {i off : Nat} {x : D} {ds : List D} {us : List Value} {L : Nat → Loc} {v : Value}
    (hc : content s p = .own xs false) (hx : xs[i]? = some x) (hle : off + ds.length ≤ x.cells.length) (hpos : 0 < ds.length) (hlen : us.length = ds.length) (hna : ∀ d ∈ ds, d.isAgg = false)
    (hr : ∀ (j : Nat) d, ds[j]? = some d → Rep w X.imm d (us.getD j undef)) (hv : RVe X s a w L (.elt p i off) v) :
    ∃ b o cur e, v = .pointer (some ⟨b, o, none⟩) ∧ w.heap[b]? = some (.cells cur e (0, 0)) ∧ o + us.length ≤ cur.size ∧ X.G b = some (locOf p, 0) ∧
      Ext X w X (w.setRow b (cur.toList.take o ++ us ++ cur.toList.drop (o + us.length)).toArray) ∧
      Rel E X (lendPlace s p (.own (xs.set i (putBack x off ds)) false)) a (w.setRow b (cur.toList.take o ++ us ++ cur.toList.drop (o + us.length)).toArray) := by
  obtain ⟨val, hval, hown⟩ := h.place hc (by simp) rfl (by simp) (by simp)
  obtain ⟨b1, o0, n1, cap1, sz1, g1, g2, g3⟩ := hv.2 xs false hc
  rw [hval] at g1
  have hxm := List.mem_of_getElem? hx
  have hil := (List.getElem?_eq_some_iff.1 hx).1
  rcases hown with ⟨rfl, _⟩ | ⟨h0, _⟩ | ⟨b, cap, cur, e, sz, rfl, hg, hw, hs, hz, hne, hsz, hcap, hmax, hcells⟩
  · simp at hx
  · cases h0
  simp only [Option.some.injEq, Value.slice.injEq] at g1
  obtain ⟨ga, _, _⟩ := g1
  simp only [Addr.mk.injEq, and_true] at ga
  obtain ⟨rfl, rfl⟩ := ga
  have hszx : x.cells.length = sz := hs x hxm
  have hsz1 : sz1 = sz := by rw [← hszx, g2 x hxm]
  subst hsz1
  simp only [Bool.false_eq_true, if_false] at hg
  rw [Nat.zero_add] at g3
  have hbound : (i + 1) * sz1 ≤ cap * sz1 := Nat.mul_le_mul_right _ (by omega)
  rw [Nat.add_mul] at hbound
  have hfit : i * sz1 + off + us.length ≤ cur.size := by omega
  refine ⟨b, i * sz1 + off, cur, e, g3, hw, hfit, hg, ?_⟩
  generalize hW : w.setRow b (cur.toList.take (i * sz1 + off) ++ us ++ cur.toList.drop (i * sz1 + off + us.length)).toArray = w'
  have hother : ∀ k, k ≠ b → w'.heap[k]? = w.heap[k]? := fun k hk => by rw [← hW]; exact setRow_other w b k _ hk
  have hnew : w'.heap[b]? = some (.cells (cur.toList.take (i * sz1 + off) ++ us ++ cur.toList.drop (i * sz1 + off + us.length)).toArray e (0, 0)) := by rw [← hW]; exact setRow_heap w b cur _ e _ hw
  have hE : Ext X w X w' := by
    refine ⟨rfl, by rw [← hW]; simp, by rw [← hW]; rfl, by rw [← hW]; rfl, by rw [← hW]; rfl, fun k hk hx' => ⟨hx', hother k (fun e => by rw [e, hg] at hx'; cases hx')⟩, fun k l n hx' => ⟨fun l' k' h' => by rw [hx'] at h'; simp only [Option.some.injEq, Prod.mk.injEq] at h'; omega, fun q hq => ?_⟩⟩
    by_cases ek : k = b
    · subst ek
      rw [hg] at hx'
      simp only [Option.some.injEq, Prod.mk.injEq] at hx'
      omega
    · exact cell?_of_heap (hother k ek) q
  have hk : ∀ l, l ≠ locOf p → KeptAt X w X w' l := fun l hl k n hx' => ⟨hx', hother k (fun e => by rw [e, hg] at hx'; simp only [Option.some.injEq, Prod.mk.injEq] at hx'; exact hl hx'.1.symm)⟩
  have hnac : ∀ d : D, d.isAgg = false → d.cells = [d] := fun d hd => by cases d <;> first | rfl | cases hd
  have hpb : ∀ y : D, y = putBack x off ds → y.cells.length = x.cells.length ∧ ∀ (j : Nat) c, y.cells[j]? = some c → (off ≤ j ∧ j < off + ds.length ∧ ds[j - off]? = some c) ∨ (¬ (off ≤ j ∧ j < off + ds.length) ∧ x.cells[j]? = some c) := by
    rintro y rfl
    have single : x.cells = [x] → putBack x off ds = ds.headD x → (putBack x off ds).cells.length = x.cells.length ∧ ∀ (j : Nat) c, (putBack x off ds).cells[j]? = some c → (off ≤ j ∧ j < off + ds.length ∧ ds[j - off]? = some c) ∨ (¬ (off ≤ j ∧ j < off + ds.length) ∧ x.cells[j]? = some c) := by
      intro e1 e2
      rw [e1] at hle
      simp only [List.length_singleton] at hle
      have h1 : ds.length = 1 := by omega
      have h2 : off = 0 := by omega
      subst h2
      obtain ⟨d0, rfl⟩ := List.length_eq_one_iff.1 h1
      rw [e2, e1, List.headD_cons, hnac d0 (hna d0 (by simp))]
      refine ⟨rfl, fun j c hj => ?_⟩
      cases j with
      | zero => exact .inl ⟨Nat.le_refl _, by simp, by simpa using hj⟩
      | succ j => simp at hj
    cases x with
    | v y => exact single rfl rfl
    | list ys => exact single rfl rfl
    | agg cs =>
      simp only [D.cells] at hle ⊢
      have hl2 : off + ds.length ≤ cs.length := hle
      refine ⟨by simp [putBack]; omega, fun j c hj => ?_⟩
      simp only [putBack] at hj
      by_cases h1 : j < off
      · rw [List.append_assoc, List.getElem?_append_left (by simp; omega), List.getElem?_take, if_pos h1] at hj
        exact .inr ⟨by omega, hj⟩
      · by_cases h2 : j < off + ds.length
        · rw [List.append_assoc, List.getElem?_append_right (by simp; omega), List.getElem?_append_left (by simp; omega)] at hj
          refine .inl ⟨by omega, h2, ?_⟩
          rw [← hj]
          congr 1; simp; omega
        · rw [List.getElem?_append_right (by simp; omega), List.getElem?_drop] at hj
          refine .inr ⟨by omega, ?_⟩
          rw [← hj]
          congr 1; simp; omega
  obtain ⟨hyl, hyc⟩ := hpb _ rfl
  refine ⟨hE, h.ownUpdate hc hval rfl hE hk (fun b' l k e' => ⟨by rw [← hW]; simpa using h.gdom b' l k e', h.oamb b' l k e'⟩) ?_ (fun sz hs' => fun y hy => ?_)⟩
  · refine .inr (.inr ⟨b, cap, _, e, sz1, by simp, by simpa using hg, hnew, fun y hy => ?_, hz, by simpa using hne, by simp; omega, by simpa using hcap, hmax, fun i' x' hx' j c hj => ?_⟩)
    · rcases List.mem_or_eq_of_mem_set hy with hy | rfl
      · exact hs y hy
      · rw [hyl, hszx]
    · have hget := splice_get cur.toList us (i * sz1 + off) (i' * sz1 + j) (by simp; omega)
      have hjs : j < sz1 := by
        have hm' := List.mem_of_getElem? hx'
        have := (List.getElem?_eq_some_iff.1 hj).1
        rcases List.mem_or_eq_of_mem_set hm' with hy | rfl
        · rw [hs _ hy] at this; exact this
        · rw [hyl, hszx] at this; exact this
      rw [List.getElem?_set] at hx'
      by_cases ei : i = i'
      · subst ei
        simp only [if_true, hil, Option.some.injEq] at hx'
        subst hx'
        rcases hyc j c hj with ⟨h1, h2, h3⟩ | ⟨h1, h3⟩
        · have hul : j - off < us.length := by omega
          have e1 : i * sz1 + j - (i * sz1 + off) = j - off := by omega
          refine ⟨us[j - off], ?_, ?_⟩
          · rw [List.getElem?_toArray, hget, if_pos ⟨by omega, by omega⟩, e1]
            simp [hul]
          · have := hr (j - off) c h3
            have e2 : us.getD (j - off) undef = us[j - off] := by simp [hul]
            rw [e2] at this
            exact hE.rep this
        · obtain ⟨u, hu, hru⟩ := hcells i x hx j c h3
          refine ⟨u, ?_, hE.rep hru⟩
          rw [List.getElem?_toArray, hget, if_neg (by omega)]
          simpa using hu
      · simp only [ei, if_false] at hx'
        obtain ⟨u, hu, hru⟩ := hcells i' x' hx' j c hj
        refine ⟨u, ?_, hE.rep hru⟩
        rw [List.getElem?_toArray, hget, if_neg ?_]
        · simpa using hu
        · rintro ⟨h1, h2⟩
          rcases Nat.lt_or_gt_of_ne ei with hlt | hgt
          · have : (i + 1) * sz1 ≤ i' * sz1 := Nat.mul_le_mul_right _ (by omega)
            rw [Nat.add_mul] at this; omega
          · have : (i' + 1) * sz1 ≤ i * sz1 := Nat.mul_le_mul_right _ (by omega)
            rw [Nat.add_mul] at this; omega
  · rcases List.mem_or_eq_of_mem_set hy with hy | rfl
    · exact hs' y hy
    · rw [hyl]; exact hs' x hxm


theorem any_kill (s : St) (l : List AV) (t : Nat) : get (if l.any AV.isOwn then killPlaced s.env else s.env) t = if l.any AV.isOwn && (get s.env t).placed then .undef else get s.env t := by
  cases l.any AV.isOwn <;> simp [get_killPlaced]

theorem freezeAll_mem {cs : List AV} {ds : List D} (h : freezeAll cs = some ds) (hl : cs.all leafOk = true) : ∀ d ∈ ds, d.isAgg = false := by
  intro d hd
  obtain ⟨j, hj, rfl⟩ := List.mem_iff_getElem.1 hd
  obtain ⟨h1, h2⟩ := freezeAll_get h
  obtain ⟨d', hd', hf⟩ := h2 j cs[j] (by simp [← h1, hj])
  have hlf := List.all_eq_true.1 hl cs[j] (List.getElem_mem _)
  have e : ds[j]? = some ds[j] := by simp [hj]
  rw [e] at hd'; cases hd'
  generalize cs[j] = c at hf hlf
  cases c <;> simp [freezeLeaf] at hf
  · subst hf
    revert hlf
    generalize ds[j] = y
    intro hlf
    cases y <;> first | rfl | cases hlf
  · rw [← hf]; rfl

theorem storeOp_sound {E : Env0} {X : Cx} {s s1 : St} {a : Act} {w : World} {t : TypeId} {ad x : Operand} (h : Rel E X s a w) (o : Oper) (ho : o.op = .store t ad x)
    (hp : storeOp E t ad x s = some s1) : ∃ w1 X1, (execOp a.eval o).run E.P w = .ok .skip w1 ∧ (∃ more, X1.mu = X.mu ++ more) ∧ Ext X w X1 w1 ∧ Rel E X1 s1 a w1 ∧ ∀ (o' : Nat) b', X.mu[o']? = some b' → (∀ off, ev E s ad ≠ .ptr o' off) → w1.heap[b']? = w.heap[b']? := by
  unfold storeOp at hp
  cases hm : movable (ev E s x) with
  | none => simp [hm] at hp
  | some v =>
    cases hg : tyAgg E.P t with
    | none => simp [hm, hg] at hp
    | some g =>
      cases hn : tySize E.P t with
      | none => simp [hm, hg, hn] at hp
      | some n =>
        simp only [hm, hg, hn] at hp
        split at hp
        · rename_i hcond
          obtain ⟨hlen, hleaf⟩ := hcond
          obtain ⟨X1, hmu, hE, hR, hrv, hk, hG, hpl⟩ := h.take hm 0
          have hvm : movable v = some v := by
            generalize ev E s x = c at hm
            cases c <;> simp [movable] at hm <;> subst hm <;> rfl
          simp only [Nat.zero_add] at hrv
          obtain ⟨hsz, hcells⟩ := cells_rel hvm hrv
          have h1 : ∀ u ∈ (a.eval x).cells, u.oneCell' = true := by
            intro u hu
            obtain ⟨j, hj, rfl⟩ := Array.mem_iff_getElem.1 hu
            have hjl : j < v.cells.length := by omega
            have := hcells j v.cells[j] (by simp [hjl])
            have e : (a.eval x).cells.getD j undef = (a.eval x).cells[j] := by simp [Array.getD, hj]
            rw [e] at this
            exact leaf_oneCell (List.all_eq_true.1 hleaf _ (List.getElem_mem _)) this
          have run : ∀ {b off : Nat} {cur : Array Value} {e : TypeId}, a.eval ad = .pointer (some ⟨b, off, none⟩) → w.heap[b]? = some (.cells cur e (0, 0)) → off + n ≤ cur.size →
              (execOp a.eval o).run E.P w = .ok .skip (w.setRow b (cur.toList.take off ++ (a.eval x).cells.toList ++ cur.toList.drop (off + (a.eval x).cells.toList.length)).toArray) := by
            intro b off cur e hev hw hle
            have := run_storeVar (P := E.P) (w := w) (t := t) (n := n) (val := a.eval x) hn (by omega) hw hle h1
            simp [execOp, ho, hev, Instr.storeAt, Instr.sureAddr, this]
          unfold storeCellsA at hp
          generalize had : ev E s ad = c at hp
          cases c with
          | ptr ob off =>
            obtain ⟨b, hb, hev⟩ := h.ptr had
            simp only at hp
            have hheap : (s.del (tmpOf x)).heap = s.heap := by cases x <;> rfl
            cases hcs : (s.del (tmpOf x)).heap[ob]? with
            | none => simp [hcs] at hp
            | some cs =>
              simp only [hcs] at hp
              split at hp
              · rename_i hle
                simp only [Option.some.injEq] at hp
                subst hp
                obtain ⟨b', cur, e, hb', hgb, hw, hnc, _⟩ := hR.heap ob cs hcs
                rw [hmu, hb] at hb'; cases hb'
                obtain ⟨X2, hmu2, hE2, hR2⟩ := hR.writeVar (us := (a.eval x).cells.toList) hcs hle (by simp [hsz]) (by rw [hmu]; exact hb) hw (fun j c hj => by
                  have := hcells j c hj
                  simpa [Array.getD_eq_getD_getElem?] using this) _ (any_kill (s.del (tmpOf x)) _)
                refine ⟨_, X2, run hev hw (by omega), ⟨[], by simp [hmu2, hmu]⟩, Ext.trans h.gdom hE hE2, hR2, fun o' b' ho' hne => ?_⟩
                refine setRow_other w b b' _ (fun e1 => ?_)
                have hlt : o' < s.heap.length := by rw [← h.mu]; exact (List.getElem?_eq_some_iff.1 ho').1
                obtain ⟨b3, cur3, e3, q1, q2, _⟩ := h.heap o' s.heap[o'] (by simp [hlt])
                rw [ho'] at q1; cases q1
                rw [hheap] at hcs
                obtain ⟨b4, cur4, e4, q3, q4, _⟩ := h.heap ob cs hcs
                rw [hb] at q3; cases q3
                rw [e1, q4] at q2
                simp only [Option.some.injEq, Prod.mk.injEq, Loc.blk.injEq, and_true] at q2
                subst q2
                exact hne off rfl
              · cases hp
          | elt p i off =>
            obtain ⟨L, hra⟩ := h.operand ad
            rw [had] at hra
            have hra' := hpl (.elt p i off) L .res _ rfl hra
            simp only at hp
            cases hct : content (s.del (tmpOf x)) p with
            | own xs l =>
              cases l with
              | true => simp [hct] at hp
              | false =>
                cases hf : freezeAll v.cells with
                | none => simp [hct, hf] at hp
                | some ds =>
                  simp only [hct, hf] at hp
                  cases hx : xs[i]? with
                  | none => simp [hx] at hp
                  | some y =>
                    simp only [hx] at hp
                    split at hp
                    · rename_i hc2
                      simp only [Option.some.injEq] at hp
                      subst hp
                      obtain ⟨hfl, hfg⟩ := freezeAll_get hf
                      have hR' := hR.dropRes
                      obtain ⟨b, o', cur, e, hev, hw, hle, hgb, hE2, hR2⟩ := hR'.writeElt (us := (a.eval x).cells.toList) hct hx hc2.1 hc2.2 (by simp [hsz, hfl]) (freezeAll_mem hf hleaf) (fun j d hj => by
                          have hjl : j < v.cells.length := by rw [← hfl]; exact (List.getElem?_eq_some_iff.1 hj).1
                          obtain ⟨d', hd', hfd⟩ := hfg j v.cells[j] (by simp [hjl])
                          rw [hj] at hd'; cases hd'
                          have := RVl.frozen hR (hcells j v.cells[j] (by simp [hjl])) hfd
                          simpa [Array.getD_eq_getD_getElem?] using this) (L := .res) (v := a.eval ad) (by
                          refine ⟨hra'.1, fun xs l hxs => ?_⟩
                          obtain ⟨b, o0, n', cap, sz, g1, g2, g3⟩ := hra'.2 xs l hxs
                          exact ⟨b, o0, n', cap, sz, by cases p <;> exact g1, g2, g3⟩)
                      have hul : (a.eval x).cells.toList.length = n := by simp; omega
                      refine ⟨_, X1.remap φres, run hev hw (by omega), ⟨[], by simp [Cx.remap, hmu]⟩, Ext.trans h.gdom (Ext.trans h.gdom hE (Ext.remap X1 w φres)) hE2, hR2, fun o1 b' ho1 hne => ?_⟩
                      refine setRow_other w b b' _ (fun e1 => ?_)
                      have hheap : (s.del (tmpOf x)).heap = s.heap := by cases x <;> rfl
                      have hlt : o1 < s.heap.length := by rw [← h.mu]; exact (List.getElem?_eq_some_iff.1 ho1).1
                      obtain ⟨b3, cur3, e3, q1, q2, _⟩ := hR'.heap o1 s.heap[o1] (by rw [hheap]; simp [hlt])
                      have q0 : (X1.remap φres).mu[o1]? = some b' := by show X1.mu[o1]? = _; rw [hmu]; exact ho1
                      rw [q0] at q1; cases q1
                      rw [e1, hgb] at q2
                      cases p <;> simp [locOf] at q2
                    · cases hp
            | _ => simp [hct] at hp
          | _ => simp at hp
        · cases hp

end Go.Ab
