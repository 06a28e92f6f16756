/- What the typed machine comes to, the abstract machine comes to: one operation. -/
import Derived.Test.YtfemjbmfpnpjfaaDoorTypDef
namespace Go.Ab
variable {S : Sig} {β : Type}

theorem leafD_notAgg (x : Leaf S.TC S.Ty) : (leafD x).isAgg = false := by cases x <;> rfl
theorem leafD_cells (x : Leaf S.TC S.Ty) : (leafD x).cells = [leafD x] := by cases x <;> rfl

theorem get_envA (e : TEnv S) (t : Nat) : get (envA e) t = (getT e t).toA := by
  induction e with
  | nil => rfl
  | cons p r ih =>
    obtain ⟨k, v⟩ := p
    simp only [envA, List.map_cons, get, getT] at ih ⊢
    split
    · rfl
    · exact ih
theorem setE_envA (e : TEnv S) (t : Nat) (v : TV S) : setE (envA e) t v.toA = envA (setT e t v) := by
  induction e with
  | nil => rfl
  | cons p r ih =>
    obtain ⟨k, u⟩ := p
    simp only [envA, List.map_cons, setE, setT] at ih ⊢
    split
    · rfl
    · split
      · rfl
      · simp only [List.map_cons, ih]
theorem eraseE_envA (e : TEnv S) (t : Nat) : eraseE (envA e) t = envA (eraseT e t) := by
  induction e with
  | nil => rfl
  | cons p r ih =>
    obtain ⟨k, u⟩ := p
    simp only [envA, List.map_cons, eraseE, eraseT] at ih ⊢
    split
    · exact ih
    · simp only [List.map_cons, ih]
theorem clearE_envA (l : List Nat) : ∀ (e : TEnv S), clearE (envA e) l = envA (clearT e l) := by
  induction l with
  | nil => intro e; rfl
  | cons t r ih => intro e; simp only [clearE, clearT, eraseE_envA, ih]
theorem placed_toA (v : TV S) : v.toA.placed = v.placed := by
  cases v with
  | fl x => cases x <;> rfl
  | _ => rfl
theorem isOwn_toA (v : TV S) : v.toA.isOwn = v.isOwn := by
  cases v with
  | fl x => cases x <;> rfl
  | _ => rfl
theorem tlOwn_toA (v : TL S) : v.toA.isOwn = v.isOwn := by cases v <;> rfl
theorem kill_envA (e : TEnv S) : killPlaced (envA e) = envA (killT e) := by
  induction e with
  | nil => rfl
  | cons p r ih =>
    obtain ⟨k, u⟩ := p
    simp only [envA, List.map_cons, killPlaced, killT, placed_toA] at ih ⊢
    split
    · rw [ih]; exact eraseE_envA _ _
    · simp only [List.map_cons, ih]
theorem sitsAt_toA (t : Nat) (v : TV S) : v.toA.sitsAt t = v.sitsAt t := by
  cases v with
  | fl x => cases x with
    | loc p => cases p <;> rfl
    | elt p i off => cases p <;> rfl
    | _ => rfl
  | _ => rfl
theorem killAt_envA (t : Nat) (e : TEnv S) : killAt t (envA e) = envA (killAtT t e) := by
  induction e with
  | nil => rfl
  | cons p r ih =>
    obtain ⟨k, u⟩ := p
    simp only [envA, List.map_cons, killAt, killAtT, sitsAt_toA] at ih ⊢
    split
    · rw [ih]; exact eraseE_envA _ _
    · simp only [List.map_cons, ih]
theorem repl_self : ∀ {e : TEnv S} {t : Nat} {v : TV S}, getT e t = v → replT e t v = e
  | [], _, _, _ => rfl
  | (k, u) :: r, t, v, h => by
    simp only [getT] at h
    simp only [replT]
    split
    · rename_i hk
      rw [if_pos hk] at h
      rw [h]
    · rename_i hk
      rw [if_neg hk] at h
      rw [repl_self h]

theorem putE_envA (e : TEnv S) (t : Nat) (v : TV S) : putE (envA e) t v.toA = envA (putT e t v) := by
  have key : setE (if (get (envA e) t).isOwn then killAt t (envA e) else envA e) t v.toA = envA (setT (if (getT e t).isOwn then killAtT t e else e) t v) := by
    rw [get_envA, isOwn_toA, killAt_envA]
    split <;> exact setE_envA _ _ _
  have key2 : eraseE (if (get (envA e) t).isOwn then killAt t (envA e) else envA e) t = envA (eraseT (if (getT e t).isOwn then killAtT t e else e) t) := by
    rw [get_envA, isOwn_toA, killAt_envA]
    split <;> exact eraseE_envA _ _
  cases v with
  | fl x => cases x with
    | undef => exact key2
    | own c xs l =>
      simp only [TV.toA, TL.toA, putE, putT, killAt_envA]
      exact setE_envA _ _ (.fl (.own c xs l))
    | _ => exact key
  | agg cs => exact key
  | tup vs => exact key
theorem put_toS (s : TSt S) (dst : Option Nat) (v : TV S) : s.toS.put dst v.toA = (s.put dst v).toS := by
  cases dst with
  | none => rfl
  | some t => simp only [St.put, TSt.put, TSt.toS, putE_envA]
theorem del_toS (l : List Nat) : ∀ (s : TSt S), s.toS.del l = (s.del l).toS := by
  induction l with
  | nil => intro s; rfl
  | cons t r ih =>
    intro s
    simp only [St.del, TSt.del]
    have : ({ s.toS with env := putE s.toS.env t .undef } : St) = ({ s with env := putT s.env t (.fl .undef) } : TSt S).toS := by
      simp only [TSt.toS]
      rw [show AV.undef = (TV.fl (.undef : TL S)).toA from rfl, putE_envA]
    rw [this, ih]

theorem constT1_toA {c : Option S.TC} {v : Value} {x : TL S} (h : constT1 c v = some x) : constLeaf v = x.toA := by
  unfold constT1 at h
  split at h
  · cases c with
    | none => cases h
    | some c => cases h; rfl
  all_goals first | cases h | skip
  all_goals first | rfl | skip
  rename_i h1 h2 h3 h4 h5 h6 h7 h8 h9 h10 h11 h12
  unfold constLeaf
  split
  · exact absurd rfl h1
  all_goals first | rfl | skip
  all_goals simp_all
theorem constTs_toA {vs : List Value} : ∀ {cs : List (Option S.TC)} {xs : List (TL S)}, constTs cs vs = some xs → vs.map constLeaf = xs.map TL.toA := by
  induction vs with
  | nil => intro cs xs h; simp only [constTs, Option.some.injEq] at h; subst h; rfl
  | cons v r ih =>
    intro cs xs h
    simp only [constTs] at h
    split at h
    · rename_i x ys h1 h2
      cases h
      simp only [List.map_cons, constT1_toA h1, ih h2]
    · cases h
theorem constTV_toA {cs : List (Option S.TC)} {v : Value} (h : constTV cs v ≠ .fl .undef) : constAV v = (constTV cs v).toA := by
  unfold constTV at h ⊢
  split at h
  · split at h
    · rename_i xs hx
      simp only [hx, constAV, TV.toA, constTs_toA hx]
    · exact absurd rfl h
  · rename_i hna
    split at h
    · rename_i x hx
      have : constAV v = constLeaf v := by
        cases v <;> first | rfl | exact absurd rfl (hna _)
      simp only [hx, this, TV.toA, constT1_toA hx]
    · exact absurd rfl h
theorem constCells_toA {cs : List (Option S.TC)} {v : Value} {xs : List (TL S)} (h : constCells cs v = some xs) : (constAV v).cells = xs.map TL.toA := by
  unfold constCells at h
  split at h
  · simp only [constAV, AV.cells, constTs_toA h]
  · rename_i hna
    split at h
    · rename_i x hx
      cases h
      have : constAV v = constLeaf v := by
        cases v <;> first | rfl | exact absurd rfl (hna _)
      rw [this, constT1_toA hx]
      have : ∀ y : TL S, constT1 (cs.headD none) v = some y → y.toA.cells = [y.toA] := by
        intro y hy
        unfold constT1 at hy
        split at hy
        · split at hy
          · cases hy; rfl
          · cases hy
        all_goals first | cases hy; rfl | cases hy
      rw [this x hx]; rfl
    · cases h

theorem cells_toA (v : TV S) (h : movableT v = some v) : v.toA.cells = v.cells.map TL.toA := by
  cases v with
  | fl x => cases x with
    | d y => cases y with
      | lf z => cases z <;> rfl
      | ag cs => simp [TV.toA, TL.toA, PD.toD, AV.cells, TV.cells, List.map_map, Function.comp_def]
    | _ => first | rfl | cases h
  | agg cs => rfl
  | tup vs => cases h

theorem freezeT_toA {x : TL S} {y : Leaf S.TC S.Ty} (h : freezeT x = some y) : freezeLeaf x.toA = some (leafD y) := by
  unfold freezeT at h
  split at h <;> first | cases h; rfl | cases h
theorem freezeTs_toA : ∀ {l : List (TL S)} {ds : List (Leaf S.TC S.Ty)}, freezeTs l = some ds → freezeAll (l.map TL.toA) = some (ds.map leafD)
  | [], ds, h => by simp only [freezeTs, Option.some.injEq] at h; subst h; rfl
  | c :: r, ds, h => by
    simp only [freezeTs] at h
    split at h
    · rename_i x xs h1 h2
      cases h
      simp only [List.map_cons, freezeAll, freezeT_toA h1, freezeTs_toA h2]
    · cases h
theorem freezeP_toA {v : TV S} {p : PD S} (h : freezeP v = some p) : freeze v.toA = some p.toD := by
  unfold freezeP at h
  split at h
  · split at h
    · rename_i ds hd
      cases h
      simp only [TV.toA, freeze, freezeTs_toA hd, Option.map_some, PD.toD]
    · cases h
  · cases h
    rename_i x
    cases p with
    | lf z => cases z <;> rfl
    | ag cs => rfl
  · cases h; rfl
  · cases h
theorem allLent_toA : ∀ (l : List (TL S)), allLent (l.map TL.toA) = allLentT l
  | [] => rfl
  | c :: r => by cases c <;> simp [allLent, allLentT, TL.toA, allLent_toA r]

theorem freezeTs_none : ∀ {l : List (TL S)}, freezeTs l = none → l.all TL.noAg = true → freezeAll (l.map TL.toA) = none
  | [], h, _ => by cases h
  | c :: r, h, ha => by
    simp only [List.all_cons, Bool.and_eq_true] at ha
    simp only [List.map_cons, freezeAll]
    cases hc : freezeT c with
    | none =>
      have : freezeLeaf c.toA = none := by
        cases c with
        | d x => cases x with
          | lf y => cases hc
          | ag cs => cases ha.1
        | own _ _ _ => cases hc
        | _ => rfl
      rw [this]
    | some x =>
      cases hr : freezeTs r with
      | none => rw [freezeTs_none hr ha.2]; cases freezeLeaf c.toA <;> rfl
      | some xs => simp [freezeTs, hc, hr] at h
theorem keepT_toA {fl : Flag} {v w : TV S} (h : keepT fl v = some w) : keepAs fl v.toA = w.toA := by
  unfold keepT at h
  split at h
  · cases h; rfl
  · rename_i cs
    simp only [TV.toA, keepAs]
    split at h
    · rename_i ds hd
      cases h
      rw [freezeTs_toA hd]; rfl
    · rename_i hd
      split at h
      · rename_i ha
        cases h
        rw [freezeTs_none hd ha]
      · cases h
  · rename_i h1 h2
    cases h
    cases fl with
    | keep => cases v with
      | fl x => cases x <;> rfl
      | _ => rfl
    | view => cases v with
      | fl x => cases x <;> first | rfl | exact (h1 _ _ _ rfl rfl).elim | (exfalso; simp_all; done)
      | agg cs => exact absurd rfl (h2 _ rfl)
      | tup vs => rfl

theorem cellOf_toA (h : THeap S) (o off : Nat) : cellOf (heapA h) o off = (cellT h o off).toA := by
  simp only [cellOf, cellT, heapA, List.getElem?_map]
  cases h[o]? with
  | none => rfl
  | some cs =>
    simp only [Option.map_some, List.getElem?_map]
    cases cs[off]? <;> rfl
theorem setCell_toA (h : THeap S) (o off : Nat) (v : TL S) : setCellA (heapA h) o off v.toA = heapA (setCellT h o off v) := by
  simp only [setCellA, setCellT, heapA, List.getElem?_map]
  cases h[o]? with
  | none => rfl
  | some cs => simp only [Option.map_some, List.map_set]
theorem content_toA (s : TSt S) (p : Place) : content s.toS p = (contentT s p).toA := by
  cases p with
  | slot t => exact get_envA _ _
  | cell o off => exact cellOf_toA _ _ _
theorem setPlace_toS (s : TSt S) (p : Place) (v : TL S) : setPlace s.toS p v.toA = (setPlaceT s p v).toS := by
  cases p with
  | slot t => simp only [setPlace, setPlaceT, TSt.toS]; rw [← putE_envA]; rfl
  | cell o off => simp only [setPlace, setPlaceT, TSt.toS, kill_envA, setCell_toA]
theorem lendPlace_toS (s : TSt S) (p : Place) (v : TL S) : lendPlace s.toS p v.toA = (lendPlaceT s p v).toS := by
  cases p with
  | slot t => simp only [lendPlace, lendPlaceT, TSt.toS]; rw [← setE_envA]; rfl
  | cell o off => simp only [lendPlace, lendPlaceT, TSt.toS, setCell_toA]
theorem lendFrom_toS : ∀ (n : Nat) (s : TSt S) (o off : Nat), lendFrom s.toS o off n = (lendFromT s o off n).toS
  | 0, _, _, _ => rfl
  | n + 1, s, o, off => by
    simp only [lendFrom, lendFromT]
    rw [show cellOf s.toS.heap o off = (cellT s.heap o off).toA from cellOf_toA _ _ _]
    rw [← lendFrom_toS n]
    cases cellT s.heap o off with
    | own c xs l => cases l with
      | false => exact congrArg (fun z => lendFrom z o (off + 1) n) (lendPlace_toS s (.cell o off) (.own c xs true))
      | true => rfl
    | _ => rfl

variable {T : TEn}
theorem evT_toA {s : TSt T.S} {t : TypeId} {x : Operand} (h : evT T s t x ≠ .fl .undef) : ev T.E s.toS x = (evT T s t x).toA := by
  cases x with
  | tmp u => exact get_envA _ _
  | const v => exact constTV_toA h
  | global g => exact absurd rfl h
  | func f => rfl
theorem plainT_toA {v : TV S} {p : PD S} (h : plainT v = some p) : v = .fl (.d p) := by
  unfold plainT at h
  split at h
  · cases h; rfl
  · cases h
theorem evT_eq {s : TSt T.S} {t : TypeId} {x : Operand} {v : TV T.S} (h : evT T s t x = v) (hv : v ≠ .fl .undef) : ev T.E s.toS x = v.toA := by
  subst h; exact evT_toA hv
theorem plainCT_toA {s : TSt T.S} {t : TypeId} {x : Operand} {p : PD T.S} (h : plainCT T s t x = some p) : plainC T.E s.toS x = some p.toD := by
  cases x with
  | const v =>
    simp only [plainCT] at h
    simp only [plainC]
    rw [constTV_toA (by intro hh; rw [hh] at h; cases h)]
    exact freezeP_toA h
  | _ =>
    simp only [plainCT] at h
    have := plainT_toA h
    simp only [plainC]
    rw [evT_eq this (by simp)]
    rfl
theorem plainsCT_toA {s : TSt T.S} {t : TypeId} : ∀ {l : List Operand} {ps : List (PD T.S)}, plainsCT T s t l = some ps → plainsC T.E s.toS l = some (ps.map PD.toD)
  | [], ps, h => by simp only [plainsCT, Option.some.injEq] at h; subst h; rfl
  | x :: r, ps, h => by
    simp only [plainsCT] at h
    split at h
    · rename_i a as h1 h2
      cases h
      simp only [plainsC, plainCT_toA h1, plainsCT_toA h2, List.map_cons]
    · cases h
theorem movableT_toA {v w : TV S} (h : movableT v = some w) : w = v ∧ movable v.toA = some v.toA ∧ v ≠ .fl .undef := by
  cases v with
  | fl x => cases x with
    | d y => cases h; exact ⟨rfl, rfl, by simp⟩
    | _ => first | (cases h; done) | (cases h; exact ⟨rfl, rfl, by simp⟩)
  | agg cs => cases h; exact ⟨rfl, rfl, by simp⟩
  | tup vs => cases h

theorem moveOrT_toA {v w : TV S} (h : moveOrT v = some w) : w = v ∧ moveOr v.toA = some v.toA ∧ v ≠ .fl .undef := by
  cases v with
  | fl x => cases x with
    | d y => cases h; exact ⟨rfl, rfl, by simp⟩
    | _ => first | (cases h; done) | (cases h; exact ⟨rfl, rfl, by simp⟩)
  | agg cs => cases h; exact ⟨rfl, rfl, by simp⟩
  | tup vs => cases h

theorem readPlaceT_toA {fl : Flag} {q : Bool} {s s1 : TSt S} {p : Place} {v : TV S} (h : readPlaceT fl q s p = some (v, s1)) : readPlace fl q s.toS p = some (v.toA, s1.toS) := by
  unfold readPlaceT at h
  unfold readPlace
  rw [content_toA]
  split at h
  · rename_i c xs l hc
    rw [hc]
    cases fl with
    | keep => simp only [Option.some.injEq, Prod.mk.injEq] at h; obtain ⟨rfl, rfl⟩ := h; rfl
    | view =>
      simp only [TV.toA, TL.toA]
      simp only at h
      split at h
      · rename_i hl
        cases h
        rw [if_pos hl]; rfl
      · rename_i hl
        rw [if_neg hl]
        split at h
        · cases h
        · rename_i hq
          cases h
          rw [if_neg hq]
          simp only [Option.some.injEq, Prod.mk.injEq]
          exact ⟨rfl, lendPlace_toS s p (.own c xs true)⟩
  all_goals first | (cases h; done) | skip
  rename_i h1 h2 h3 h4 h6
  cases h
  generalize contentT s p = w at *
  cases w with
  | fl x => cases x <;> first | rfl | exact (h1 _ _ _ rfl).elim | (exfalso; simp_all; done)
  | agg cs => exact absurd rfl (h6 _)
  | tup vs => rfl
end Go.Ab
