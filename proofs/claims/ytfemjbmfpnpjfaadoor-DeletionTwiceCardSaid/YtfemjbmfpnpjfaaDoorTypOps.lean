/- What the typed machine comes to, the abstract machine comes to: operations. -/
import Derived.Test.YtfemjbmfpnpjfaaDoorTypSound
namespace Go.Ab
variable {S : Sig} {β : Type} {T : TEn} {P : Program}

theorem enc_cells (hS : S.Ok P) (c : S.TC) (x : S.Ty c) : (S.enc c x).cells = (S.cells c x).map leafD := by
  rw [hS.enc_eq]
  have hl := hS.len c x
  have hp := hS.pos c
  unfold packT
  cases hg : S.agg c with
  | true => rfl
  | false =>
    have h1 := hS.one c hg
    match hcs : S.cells c x, hl with
    | [], hl => simp only [hcs, List.length_nil] at hl; omega
    | [y], _ => simp only [Bool.false_eq_true, if_false, PD.toD, leafD_cells, List.map_cons, List.map_nil]
    | y :: z :: r, hl => simp only [hcs, List.length_cons] at hl; omega
theorem enc_isAgg (hS : S.Ok P) (c : S.TC) (x : S.Ty c) : (S.enc c x).isAgg = S.agg c := by
  rw [hS.enc_eq]
  have hl := hS.len c x
  have hp := hS.pos c
  unfold packT
  cases hg : S.agg c with
  | true => rfl
  | false =>
    match hcs : S.cells c x, hl with
    | [], hl => simp only [hcs, List.length_nil] at hl; omega
    | y :: r, _ => simp only [Bool.false_eq_true, if_false, PD.toD, leafD_notAgg]
theorem elemOk_enc (hS : S.Ok P) (c : S.TC) (x : S.Ty c) : elemOk (S.agg c) (S.size c) (S.enc c x) = true := by
  simp only [elemOk, enc_cells hS, enc_isAgg hS, List.length_map, hS.len, beq_self_eq_true, decide_eq_true (hS.pos c), Bool.true_and, List.all_map, Function.comp_def, leafD_notAgg, Bool.not_false, List.all_eq_true, implies_true]
theorem elemsOk_enc (hS : S.Ok P) {t e : TypeId} {c : S.TC} (h1 : S.elem t = some c) (h2 : tyElem P t = some e) (xs : List (S.Ty c)) : elemsOk P e (xs.map (S.enc c)) = true := by
  obtain ⟨e', h3, h4, h5⟩ := hS.elem t c h1
  rw [h2] at h3; cases h3
  simp only [elemsOk, h4, h5, List.all_map, List.all_eq_true, Function.comp_def]
  intro x _
  exact elemOk_enc hS c x

theorem ofPD_enc (hS : S.Ok P) {c : S.TC} {p : PD S} {x : S.Ty c} (h : ofPD c p = some x) : p.toD = S.enc c x := by
  rw [hS.enc_eq]
  cases p with
  | lf y =>
    simp only [ofPD] at h
    split at h
    · cases h
    · rename_i hg
      have h1 := hS.of_eq c _ _ h
      simp only [packT, hg]
      match hcs : S.cells c x, h1 with
      | [z], h1 => simp only [hcs, List.map_cons, List.map_nil, List.cons.injEq, and_true] at h1; exact h1.symm
      | [], h1 => simp [hcs] at h1
      | _ :: _ :: _, h1 => simp [hcs] at h1
  | ag cs =>
    simp only [ofPD] at h
    split at h
    · rename_i hg
      have h1 := hS.of_eq c _ _ h
      simp only [packT, hg, if_true, PD.toD, h1]
    · cases h
theorem ofPDs_enc (hS : S.Ok P) {c : S.TC} : ∀ {ps : List (PD S)} {xs : List (S.Ty c)}, ofPDs c ps = some xs → ps.map PD.toD = xs.map (S.enc c)
  | [], xs, h => by simp only [ofPDs, Option.some.injEq] at h; subst h; rfl
  | p :: r, xs, h => by
    simp only [ofPDs] at h
    split at h
    · rename_i y ys h1 h2
      cases h
      simp only [List.map_cons, ofPD_enc hS h1, ofPDs_enc hS h2]
    · cases h
theorem asList_eq {c : S.TC} {x : Leaf S.TC S.Ty} {xs : List (S.Ty c)} (h : asList c x = some xs) : x = .l c xs := by
  cases x with
  | l c' ys =>
    simp only [asList] at h
    split at h
    · rename_i hc
      subst hc
      cases h; rfl
    · cases h
  | _ => cases h

theorem nth_some {α : Type} {xs : List α} {n : Int} {k : α → Option β} {r : β} (h : nth xs n k = some r) : 0 ≤ n ∧ ∃ x, xs[n.toNat]? = some x ∧ k x = some r := by
  unfold nth at h
  split at h
  · rename_i h0
    refine ⟨h0, ?_⟩
    split at h
    · exact ⟨_, by assumption, h⟩
    · cases h
  · cases h
theorem nthN_some {α : Type} {xs : List α} {n : Nat} {k : α → Option β} {r : β} (h : nthN xs n k = some r) : ∃ x, xs[n]? = some x ∧ k x = some r := by
  unfold nthN at h
  split at h
  · exact ⟨_, by assumption, h⟩
  · cases h
theorem capOk_some {n : Nat} {k : Option β} {r : β} (h : capOk n k = some r) : n ≤ maxElems ∧ k = some r := by
  unfold capOk at h
  split at h
  · exact ⟨by assumption, h⟩
  · cases h
theorem hiK_some {len : Nat} {n : Int} {k : Nat → Option β} {r : β} (h : hiK len n k = some r) : (0 ≤ n ∧ n ≤ (len : Int)) ∧ k n.toNat = some r := by
  unfold hiK at h
  split at h
  · exact ⟨by assumption, h⟩
  · cases h
theorem chk_some {p : Prop} [Decidable p] {k : Option β} {r : β} (h : chk p k = some r) : p ∧ k = some r := by
  unfold chk at h
  split at h
  · exact ⟨by assumption, h⟩
  · cases h

theorem eltCells_toA (hS : S.Ok P) {s : TSt S} {p : Place} {c : S.TC} {xs : List (S.Ty c)} {l : Bool} (hc : contentT s p = .fl (.own c xs l)) {i off : Nat} {x : S.Ty c} (hx : xs[i]? = some x) :
    eltCells s.toS p i off = some (((S.cells c x).drop off).map leafD) := by
  simp only [eltCells, content_toA, hc, TV.toA, TL.toA, List.getElem?_map, hx, Option.map_some, enc_cells hS, List.map_drop]

theorem heap_get (h : THeap S) (o : Nat) : (heapA h)[o]? = (h[o]?).map (·.map TL.toA) := by simp [heapA]

/-- A step that the abstract machine takes, too. -/
def Does (A : Option (AV × St)) (k : TV S → TSt S → Option β) (x : β) : Prop := ∃ v s1, A = some (v.toA, TSt.toS s1) ∧ k v s1 = some x

theorem loadT_does (hS : T.S.Ok T.E.P) {fl : Flag} {q : Bool} {t : TypeId} {a : TV T.S} {s : TSt T.S} {k : TV T.S → TSt T.S → Option β} {x : β} (h : loadT T fl q t a s k = some x) :
    Does (loadOp T.E fl q t a.toA s.toS) k x := by
  unfold loadT at h
  unfold loadOp
  split at h
  · rename_i hg
    rw [hg]
    split at h
    · rename_i o off
      split at h
      · rename_i v s1 hr
        exact ⟨v, s1, readPlaceT_toA hr, h⟩
      · cases h
    · exact ⟨_, _, rfl, h⟩
    · rename_i p i off
      split at h
      · rename_i c xs l hc
        obtain ⟨y, hy, hk⟩ := nthN_some h
        split at hk
        · rename_i z zs hz
          refine ⟨_, _, ?_, hk⟩
          simp only [TV.toA, TL.toA, eltCells_toA hS hc hy, hz, List.map_cons, PD.toD]
        · cases hk
      · cases h
    · cases h
  · rename_i n hg hn
    rw [hg, hn]
    split at h
    · rename_i o off
      split at h
      · rename_i cs hcs
        split at h
        · rename_i hle
          split at h
          · rename_i ds hds
            have h1 : s.toS.heap[o]? = some (cs.map TL.toA) := by rw [show s.toS.heap = heapA s.heap from rfl, heap_get, hcs]; rfl
            have h2 : ((cs.map TL.toA).drop off).take n = ((cs.drop off).take n).map TL.toA := by simp [List.map_take, List.map_drop]
            split at h
            · rename_i hl
              refine ⟨_, _, ?_, h⟩
              simp only [TV.toA, TL.toA, h1, List.length_map, hle, if_true, h2, freezeTs_toA hds, allLent_toA, hl]
              rfl
            · rename_i hl
              split at h
              · cases h
              · rename_i hq
                refine ⟨_, _, ?_, h⟩
                simp only [TV.toA, TL.toA, h1, List.length_map, hle, if_true, h2, freezeTs_toA hds, allLent_toA, hl, if_false, hq, lendFrom_toS]
                rfl
          · cases h
        · cases h
      · cases h
    · rename_i cs
      split at h
      · rename_i hle
        refine ⟨_, _, ?_, h⟩
        simp only [TV.toA, TL.toA, List.length_map, hle, if_true, PD.toD, List.map_take]
      · cases h
    · rename_i p i off
      split at h
      · rename_i c xs l hc
        obtain ⟨y, hy, hk⟩ := nthN_some h
        split at hk
        · rename_i hle
          refine ⟨_, _, ?_, hk⟩
          simp only [TV.toA, TL.toA, eltCells_toA hS hc hy, List.length_map, hle, if_true, PD.toD, List.map_take]
        · cases hk
      · cases h
    · cases h
  · cases h

/-- A store that the abstract machine carries out, too. -/
def Puts (A : Option St) (k : TSt S → Option β) (x : β) : Prop := ∃ s1, A = some (TSt.toS s1) ∧ k s1 = some x

theorem any_toA (l : List (TL S)) : (l.map TL.toA).any AV.isOwn = l.any TL.isOwn := by
  induction l with
  | nil => rfl
  | cons a r ih => simp only [List.map_cons, List.any_cons, ih, tlOwn_toA]

theorem storeCellsT_puts (hS : T.S.Ok T.E.P) {a : TV T.S} {vs : List (TL T.S)} {s : TSt T.S} {k : TSt T.S → Option β} {x : β} (h : storeCellsT a vs s k = some x) :
    Puts (storeCellsA a.toA (vs.map TL.toA) s.toS) k x := by
  unfold storeCellsT at h
  unfold storeCellsA
  split at h
  · rename_i o off
    split at h
    · rename_i cs hcs
      have h1 : s.toS.heap[o]? = some (cs.map TL.toA) := by rw [show s.toS.heap = heapA s.heap from rfl, heap_get, hcs]; rfl
      split at h
      · rename_i hle
        refine ⟨_, ?_, h⟩
        simp only [TV.toA, TL.toA, h1, List.length_map, hle, if_true, Option.some.injEq]
        have h2 : ((cs.map TL.toA).drop off).take vs.length ++ vs.map TL.toA = (((cs.drop off).take vs.length) ++ vs).map TL.toA := by simp [List.map_take, List.map_drop]
        rw [h2, any_toA]
        simp only [TSt.toS, St.mk.injEq]
        constructor
        · split
          · exact kill_envA _
          · rfl
        · simp [heapA, List.map_set, List.map_take, List.map_drop]
      · cases h
    · cases h
  · rename_i p i off
    split at h
    · rename_i c xs ds hc hds
      obtain ⟨y, hy, hk⟩ := nthN_some h
      split at hk
      · rename_i hle
        split at hk
        · rename_i z hz
          refine ⟨_, ?_, hk⟩
          simp only [TV.toA, TL.toA, content_toA, hc, freezeTs_toA hds, List.getElem?_map, hy, Option.map_some, enc_cells hS, List.length_map, hle, and_self, if_true, Option.some.injEq]
          have h3 := hS.of_eq c _ _ hz
          have h4 : putBack (T.S.enc c y) off (ds.map leafD) = T.S.enc c z := by
            rw [hS.enc_eq c y, hS.enc_eq c z]
            unfold packT
            have hly := hS.len c y
            have hlz := hS.len c z
            cases hg : T.S.agg c with
            | true =>
              simp only [if_true, PD.toD, putBack, h3, List.map_append, List.map_take, List.map_drop, List.length_map]
            | false =>
              have h1 := hS.one c hg
              simp only [Bool.false_eq_true, if_false]
              match hcs : T.S.cells c y, hcz : T.S.cells c z, ds, hle with
              | [u], [w], [d], hle =>
                rw [hcs] at h3
                simp only [List.length_cons, List.length_nil] at hle
                obtain rfl : off = 0 := by omega
                rw [hcz] at h3
                simp only [List.take_zero, List.nil_append, List.drop_succ_cons, List.drop_zero, List.length_cons, List.length_nil, Nat.zero_add, List.cons_append, List.map_cons, List.map_nil, List.cons.injEq, and_true] at h3
                simp only [PD.toD, List.map_cons, List.map_nil]
                have : putBack (leafD u) 0 [leafD d] = leafD d := by cases u <;> rfl
                rw [this, h3]
              | [], _, _, _ => simp only [hcs, List.length_nil] at hly; omega
              | _ :: _ :: _, _, _, _ => simp only [hcs, List.length_cons] at hly; omega
              | [_], [], _, _ => simp only [hcz, List.length_nil] at hlz; omega
              | [_], _ :: _ :: _, _, _ => simp only [hcz, List.length_cons] at hlz; omega
              | [_], [_], [], hle => simp at hle
              | [_], [_], _ :: _ :: _, hle => simp only [hcs, List.length_cons, List.length_nil] at hle; omega
          rw [h4, ← lendPlace_toS]
          simp only [TL.toA, List.map_set]
        · cases hk
      · cases hk
    · cases h
  · cases h

theorem leafOk_toA (v : TL S) : leafOk v.toA = leafOkT v := by
  cases v with
  | d x => cases x with
    | lf y => cases y <;> rfl
    | ag cs => rfl
  | _ => rfl

theorem storeT_puts (hS : T.S.Ok T.E.P) {t : TypeId} {a y : Operand} {s : TSt T.S} {k : TSt T.S → Option β} {x : β} (h : storeT T t a y s k = some x) :
    Puts (storeOp T.E t a y s.toS) k x := by
  unfold storeT at h
  unfold storeOp
  split at h
  · rename_i v g n hv hg hn
    obtain ⟨rfl, hm, hne⟩ := movableT_toA hv
    rw [evT_toA hne, hm, hg, hn]
    split at h
    · rename_i hc
      have h1 : ev T.E s.toS a = (evT T s t a).toA := by
        refine evT_toA fun e => ?_
        rw [e] at h
        cases h
      rw [h1]
      have hcells := cells_toA (evT T s t y) hv
      have h2 : ((evT T s t y).toA.cells.length = n ∧ (evT T s t y).toA.cells.all leafOk = true) := by
        rw [hcells]
        refine ⟨by simpa using hc.1, ?_⟩
        simpa [List.all_map, Function.comp_def, leafOk_toA] using hc.2
      simp only [h2, and_self, if_true]
      rw [del_toS, hcells]
      exact storeCellsT_puts hS h
    · cases h
  · cases h
end Go.Ab
