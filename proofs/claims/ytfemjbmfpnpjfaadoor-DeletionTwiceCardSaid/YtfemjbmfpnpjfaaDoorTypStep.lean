/- What the typed machine comes to, the abstract machine comes to: every operation but calls. -/
import Derived.Test.YtfemjbmfpnpjfaaDoorTypOps
namespace Go.Ab
variable {S : Sig} {β : Type} {T : TEn} {P : Program}

theorem binT'_does {P : Program} {op : BinOp} {t : TypeId} {x y : Leaf S.TC S.Ty} {k : LfK S β} {r : β} (h : binT' P op t x y k = some r) :
    ∃ u v z, leafD x = .v u ∧ leafD y = .v v ∧ ∃ w, binT P op t u v = some w ∧ leafD z = .v w ∧ k z = some r := by
  unfold binT' at h
  split at h
  · rename_i κ a κ' b
    refine ⟨.int κ a, .int κ' b, ?_⟩
    split at h
    · obtain ⟨hp, hk⟩ := chk_some h
      exact ⟨_, rfl, rfl, _, by simp only [binT, binV, Int.not_lt.2 hp, if_false]; rfl, rfl, hk⟩
    · obtain ⟨hp, hk⟩ := chk_some h
      exact ⟨_, rfl, rfl, _, by simp only [binT, binV, Int.not_lt.2 hp, if_false]; rfl, rfl, hk⟩
    all_goals (
      split at h
      · rename_i hκ
        subst hκ
        first
        | exact ⟨_, rfl, rfl, _, by simp only [binT, binV, if_true]; rfl, rfl, h⟩
        | (obtain ⟨hp, hk⟩ := chk_some h
           exact ⟨_, rfl, rfl, _, by simp only [binT, binV, true_and, hp, not_false_eq_true, ne_eq, if_true]; rfl, rfl, hk⟩)
      · cases h)
  · rename_i a b
    refine ⟨.string ⟨⟨a⟩⟩, .string ⟨⟨b⟩⟩, ?_⟩
    split at h
    · obtain ⟨hp, hk⟩ := chk_some h
      exact ⟨_, rfl, rfl, _, by simp only [binT, binV, hp, if_true], rfl, hk⟩
    all_goals first | (cases h; done) | exact ⟨_, rfl, rfl, _, by simp only [binT, binV]; rfl, rfl, h⟩
  · rename_i a b
    refine ⟨.bool a, .bool b, ?_⟩
    split at h
    · rename_i hu
      exact ⟨_, rfl, rfl, _, by simp only [binT, hu], rfl, h⟩
    · rename_i hu
      exact ⟨_, rfl, rfl, _, by simp only [binT, hu], rfl, h⟩
    · cases h
  · cases h
theorem unT_does {op : UnOp} {x z : Leaf S.TC S.Ty} (h : unT op x = some z) : ∃ u w, leafD x = .v u ∧ unV op u = some w ∧ leafD z = .v w := by
  unfold unT at h
  split at h
  · cases h; exact ⟨_, _, rfl, rfl, rfl⟩
  · cases h; exact ⟨_, _, rfl, rfl, rfl⟩
  · cases h

theorem idxT_toA {v : TV S} {n : Int} (h : idxT v = some n) : idxOf v.toA = some n ∧ v ≠ .fl .undef := by
  unfold idxT at h
  split at h
  · cases h; exact ⟨rfl, by simp⟩
  · cases h
theorem idx_ev {s : TSt T.S} {t : TypeId} {x : Operand} {n : Int} (h : idxT (evT T s t x) = some n) : idxOf (ev T.E s.toS x) = some n := by
  obtain ⟨h1, h2⟩ := idxT_toA h
  rw [evT_toA h2]; exact h1

theorem allLf_toA : ∀ {l : List (TL S)} {ds : List (Leaf S.TC S.Ty)}, allLf l = some ds → allD (l.map TL.toA) = some (ds.map leafD)
  | [], ds, h => by simp only [allLf, Option.some.injEq] at h; subst h; rfl
  | c :: r, ds, h => by
    unfold allLf at h
    split at h
    · rename_i h0; cases h0
    · rename_i x r' h0
      cases h0
      split at h
      · rename_i xs hx
        cases h
        simp only [List.map_cons, TL.toA, PD.toD, allD, allLf_toA hx, Option.map_some]
      · cases h
    · cases h
theorem allLf_none : ∀ {l : List (TL S)}, allLf l = none → l.all TL.noAg = true → allD (l.map TL.toA) = none
  | [], h, _ => by cases h
  | c :: r, h, ha => by
    simp only [List.all_cons, Bool.and_eq_true] at ha
    cases c with
    | d x => cases x with
      | lf y =>
        simp only [allLf] at h
        split at h
        · cases h
        · rename_i hr
          simp only [List.map_cons, TL.toA, PD.toD, allD, allLf_none hr ha.2, Option.map_none]
      | ag cs => cases ha.1
    | _ => rfl
theorem packAggT_toA {cs : List (TL S)} {v : TV S} (h : packAggT cs = some v) : packAgg (cs.map TL.toA) = v.toA := by
  unfold packAggT at h
  unfold packAgg
  split at h
  · rename_i ds hd
    cases h
    rw [allLf_toA hd]; rfl
  · rename_i hd
    split at h
    · rename_i ha
      cases h
      rw [allLf_none hd ha]; rfl
    · cases h

theorem cellsT_of (v : TV S) (hv : movableT v = some v) : v.toA.cells = v.cells.map TL.toA ∧ v.toA.cells.length = v.cells.length := by
  have := cells_toA v hv
  exact ⟨this, by rw [this, List.length_map]⟩
theorem fillT_toA {place : Nat → Option (Nat × Nat)} : ∀ {ps : List (Nat × TV S)} {cells cs : List (TL S)}, (∀ p ∈ ps, movableT p.2 = some p.2) → fillT place cells ps = some cs →
    fillA place (cells.map TL.toA) (ps.map fun p => (p.1, p.2.toA)) = some (cs.map TL.toA)
  | [], cells, cs, _, h => by simp only [fillT, Option.some.injEq] at h; subst h; rfl
  | (i, v) :: r, cells, cs, hm, h => by
    simp only [fillT] at h
    split at h
    · rename_i off size hp
      split at h
      · rename_i hc
        obtain ⟨h1, h2⟩ := cellsT_of v (hm (i, v) (by simp))
        simp only [List.map_cons, fillA, hp, h2, List.length_map, hc, and_self, if_true]
        have := fillT_toA (fun p hp => hm p (by simp [hp])) h
        rw [← this, h1]
        simp only [List.map_append, List.map_take, List.map_drop]
      · cases h
    · cases h
theorem partsT_toA {t : TypeId} : ∀ {l : List (Nat × Operand)} {s : TSt T.S} {ps : List (Nat × TV T.S)}, partsT T t s l = some ps →
    (∀ p ∈ ps, movableT p.2 = some p.2) ∧ partsOf T.E s.toS l = some (ps.map fun p => (p.1, p.2.toA))
  | [], s, ps, h => by simp only [partsT, Option.some.injEq] at h; subst h; exact ⟨by simp, rfl⟩
  | (i, x) :: r, s, ps, h => by
    simp only [partsT] at h
    split at h
    · rename_i v vs h1 h2
      cases h
      obtain ⟨rfl, hm, hne⟩ := movableT_toA h1
      obtain ⟨h3, h4⟩ := partsT_toA h2
      refine ⟨fun p hp => ?_, ?_⟩
      · rcases List.mem_cons.1 hp with rfl | hp
        · exact h1
        · exact h3 p hp
      · simp only [partsOf, evT_toA hne, hm, del_toS, h4, List.map_cons]
    · cases h

theorem lenT_toA {t : TypeId} {v : TV T.S} {s : TSt T.S} {n : Nat} (h : lenT T t v s = some n) : lenA T.E t v.toA s.toS = some n ∧ v ≠ .fl .undef := by
  unfold lenT at h
  unfold lenA
  split at h
  · rename_i hu; cases h; refine ⟨?_, by simp⟩; rw [hu]; rfl
  · rename_i hu; cases h; refine ⟨?_, by simp⟩; rw [hu]; simp [TV.toA, TL.toA, PD.toD, leafD]
  · rename_i hu
    rw [hu]
    split at h
    · rename_i hc
      cases h
      simp only [TV.toA, TL.toA, content_toA, hc, List.length_map]
      simp
    · cases h
  · cases h

theorem boundsT_ok {len : Nat} {lo hi : Option (TV S)} {k : Nat → Nat → Option β} {r : β} (h : boundsT len lo hi k = some r) :
    ∃ a b, sliceBoundsA len (lo.map TV.toA) (hi.map TV.toA) = some (a, b) ∧ k a b = some r ∧ (∀ v ∈ lo, v ≠ .fl .undef) ∧ (∀ v ∈ hi, v ≠ .fl .undef) := by
  unfold boundsT at h
  unfold sliceBoundsA
  cases hi with
  | none =>
    simp only at h
    cases lo with
    | none => exact ⟨_, _, rfl, h, by simp, by simp⟩
    | some a =>
      simp only at h
      split at h
      · rename_i n hn
        obtain ⟨h1, h2⟩ := idxT_toA hn
        obtain ⟨h3, h4⟩ := hiK_some h
        refine ⟨_, _, ?_, h4, by simpa using h2, by simp⟩
        simp only [Option.map_none, Option.map_some, h1, h3, and_self, if_true]
      · cases h
  | some b =>
    simp only at h
    split at h
    · cases h
    · rename_i m hm
      obtain ⟨h1, h2⟩ := idxT_toA hm
      obtain ⟨h3, h4⟩ := hiK_some h
      cases lo with
      | none =>
        refine ⟨_, _, ?_, h4, by simp, by simpa using h2⟩
        simp only [Option.map_none, Option.map_some, h1, h3, and_self, if_true]
      | some a =>
        simp only at h4
        split at h4
        · rename_i n hn
          obtain ⟨h5, h6⟩ := idxT_toA hn
          obtain ⟨h7, h8⟩ := hiK_some h4
          refine ⟨_, _, ?_, h8, by simpa using h6, by simpa using h2⟩
          simp only [Option.map_some, h1, h3, h5, h7, and_self, if_true]
        · cases h4

theorem map_ev {s : TSt T.S} {t : TypeId} {x : Option Operand} (h : ∀ v ∈ x.map (evT T s t), v ≠ .fl .undef) : x.map (ev T.E s.toS) = (x.map (evT T s t)).map TV.toA := by
  cases x with
  | none => rfl
  | some y =>
    simp only [Option.map_some]
    rw [evT_toA (t := t) (h (evT T s t y) (by simp))]

theorem sliceT_does (hS : T.S.Ok T.E.P) {t : TypeId} {y : Operand} {lo hi mx : Option Operand} {s : TSt T.S} {k : TV T.S → Option β} {r : β} (h : sliceT T t y lo hi mx s k = some r) :
    ∃ v, sliceOp T.E t y lo hi mx s.toS = some v.toA ∧ k v = some r := by
  unfold sliceT at h
  split at h
  · rename_i l hp
    split at h
    · rename_i hu
      obtain ⟨a, b, h1, h2, h3, h4⟩ := boundsT_ok h
      refine ⟨_, ?_, h2⟩
      simp only [sliceOp, plainCT_toA hp, PD.toD, leafD]
      rw [map_ev h3, map_ev h4, h1, hu]; rfl
    · cases h
  · rename_i c xs hp
    split at h
    · rename_i he
      obtain ⟨a, b, h1, h2, h3, h4⟩ := boundsT_ok h
      refine ⟨_, ?_, h2⟩
      obtain ⟨e, h5, h6, h7⟩ := hS.elem t c he
      simp only [sliceOp, plainCT_toA hp, PD.toD, leafD, h5, List.length_map]
      rw [map_ev h3, map_ev h4, h1]
      simp only [elemsOk_enc hS he h5, if_true, TV.toA, TL.toA, PD.toD, leafD, List.map_drop, List.map_take]
    · cases h
  · cases h

theorem appendT_does (hS : T.S.Ok T.E.P) {q : Bool} {t : TypeId} {y z : Operand} {s : TSt T.S} {k : TV T.S → TSt T.S → Option β} {r : β} (h : appendT T q t y z s k = some r) :
    Does (appendOp T.E q t y z s.toS) k r := by
  unfold appendT at h
  split at h
  · rename_i c yl he hp
    split at h
    · rename_i ys hy
      cases asList_eq hy
      split at h
      · rename_i hg
        obtain ⟨e, h5, h6, h7⟩ := hS.elem t c he
        simp only [growOk, h5] at hg
        split at hg
        · rename_i b hb
          simp only [Bool.and_eq_true, decide_eq_true_eq] at hg
          split at h
          · rename_i c' xs l hv
            split at h
            · rename_i xs' hx
              cases asList_eq hx
              obtain ⟨h1, h2⟩ := capOk_some h
              refine ⟨_, _, ?_, h2⟩
              simp only [appendOp, plainCT_toA hp, PD.toD, leafD, h5, hb, hg, elemsOk_enc hS he h5, and_self, if_true, evT_eq hv (by simp), TV.toA, TL.toA, List.length_map, h1, List.map_append]
            · cases h
          · rename_i p hv
            split at h
            · rename_i c' xs l hc
              split at h
              · cases h
              · rename_i hq
                split at h
                · rename_i xs' hx
                  cases asList_eq hx
                  obtain ⟨h1, h2⟩ := capOk_some h
                  refine ⟨_, _, ?_, h2⟩
                  have hq' : q = false := by simpa using hq
                  simp only [appendOp, plainCT_toA hp, PD.toD, leafD, h5, hb, hg, elemsOk_enc hS he h5, and_self, if_true, evT_eq hv (by simp), TV.toA, TL.toA, content_toA, hc, hq', List.length_map, h1, List.map_append]
                  rw [← setPlace_toS]; rfl
                · cases h
            · cases h
          · cases h
        · cases hg
      · cases h
    · cases h
  · cases h

theorem indexAddrT_does (hS : T.S.Ok T.E.P) {t : TypeId} {v : TV T.S} {n : Int} {s : TSt T.S} {k : TV T.S → Option β} {r : β} (h : indexAddrT T t v n s k = some r) :
    (∃ w, indexAddrOp T.E t v.toA n s.toS = some w.toA ∧ k w = some r) ∧ v ≠ .fl .undef := by
  unfold indexAddrT at h
  split at h
  · rename_i c e p he hu
    obtain ⟨e', h5, h6, h7⟩ := hS.elem t c he
    simp only [tyElem, hu, Option.some.injEq] at h5
    subst h5
    split at h
    · rename_i c' xs l hc
      split at h
      · rename_i hcc
        subst hcc
        obtain ⟨h0, x, hx, hk⟩ := nth_some h
        refine ⟨⟨_, ?_, hk⟩, by simp⟩
        simp only [indexAddrOp, hu, TV.toA, TL.toA, content_toA, hc, h7, h0, if_true, List.getElem?_map, hx, Option.map_some, enc_cells hS, List.length_map, hS.len]
      · cases h
    · cases h
  · rename_i c e c' xs he hu
    obtain ⟨e', h5, h6, h7⟩ := hS.elem t c he
    simp only [tyElem, hu, Option.some.injEq] at h5
    subst h5
    split at h
    · rename_i hcc
      subst hcc
      obtain ⟨h0, x, hx, hk⟩ := nth_some h
      refine ⟨⟨_, ?_, hk⟩, by simp⟩
      simp only [indexAddrOp, hu, TV.toA, TL.toA, PD.toD, leafD, h7, h0, if_true, List.getElem?_map, hx, Option.map_some, enc_cells hS, List.length_map, hS.len]
    · cases h
  · cases h

theorem partT_toA {P : Program} {t : TypeId} {cs : List (Leaf S.TC S.Ty)} {off : Nat} {p : PD S} (h : partT P t cs off = some p) : partOf P t (cs.map leafD) off = some p.toD := by
  unfold partT at h
  unfold partOf
  split at h
  · rename_i n h1 h2
    rw [h1, h2]
    split at h
    · rename_i hle
      cases h
      simp only [List.length_map, hle, if_true, PD.toD, List.map_take, List.map_drop]
    · cases h
  · rename_i h1
    rw [h1]
    split at h
    · rename_i x hx
      cases h
      simp only [List.getElem?_map, hx, Option.map_some, PD.toD]
    · cases h
  · cases h
theorem capsT_toA {s : TSt T.S} : ∀ {l : List Operand} {ps : List (Nat × Nat)}, capsT T s l = some ps → capsOf T.E s.toS l = some ps
  | [], ps, h => by simp only [capsT, Option.some.injEq] at h; subst h; rfl
  | x :: r, ps, h => by
    simp only [capsT] at h
    split at h
    · rename_i o a ps' h1 h2
      cases h
      simp only [capsOf, evT_eq h1 (by simp), TV.toA, TL.toA, capsT_toA h2]
    · cases h

end Go.Ab
