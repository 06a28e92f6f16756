/- What the typed machine comes to, the abstract machine comes to: any operation that calls no function of the program's. -/
import Derived.Test.YtfemjbmfpnpjfaaDoorTypStep
namespace Go.Ab
variable {S : Sig} {β : Type} {T : TEn} {P : Program}

theorem constCells_alloc {s : TSt S} {cs : List (Option S.TC)} {z : Value} {xs : List (TL S)} (h : constCells cs z = some xs) :
    (some (.ptr s.toS.heap.length 0, { s.toS with heap := s.toS.heap ++ [(constAV z).cells] }) : Option (AV × St)) = some ((TV.fl (.ptr s.heap.length 0) : TV S).toA, TSt.toS { s with heap := s.heap ++ [xs] }) := by
  rw [constCells_toA h]
  simp [TSt.toS, heapA, TV.toA, TL.toA]

theorem plainOp_toA (hS : T.S.Ok T.E.P) {fl : Flag} {q : Bool} {ty : TypeId} {op : Op} {s s1 : TSt T.S} {v : TV T.S} (h : plainOp T fl q ty op s = some (v, s1)) :
    stepOp T.E fl q op s.toS = some (v.toA, s1.toS) := by
  unfold plainOp at h
  split at h
  · exact readPlaceT_toA h
  · rename_i x hx
    split at h
    · rename_i w hw
      cases h
      obtain ⟨rfl, hm, hne⟩ := moveOrT_toA hw
      cases x with
      | tmp t => exact absurd rfl (hx t)
      | _ => simp only [stepOp]; rw [evT_toA hne, hm]; rfl
    · cases h
  · split at h
    · rename_i w hw
      cases h
      obtain ⟨rfl, hm, hne⟩ := moveOrT_toA hw
      simp only [stepOp]; rw [evT_toA hne, hm]; rfl
    · cases h
  · rename_i e
    split at h
    · rename_i z hz
      split at h
      · rename_i cs hcs
        cases h
        simp only [stepOp, hz, Option.map_some]
        exact constCells_alloc hcs
      · cases h
    · cases h
  · rename_i e x
    split at h
    · rename_i w n hw hn
      obtain ⟨rfl, hm, hne⟩ := movableT_toA hw
      obtain ⟨h1, h2⟩ := cellsT_of _ hw
      split at h
      · rename_i hc
        cases h
        have h3 : (evT T s e x).toA.cells.length = n := by rw [h2]; exact hc
        simp only [stepOp, evT_toA hne, hm, hn]
        rw [if_pos h3, h1]
        simp [TSt.toS, heapA, TV.toA, TL.toA]
      · cases h
    · cases h
  · rename_i t parts
    split at h
    · rename_i z ps hz hps
      obtain ⟨h1, h2⟩ := partsT_toA hps
      split at h
      · rename_i hpl
        split at h
        · rename_i cs0 hcs0
          split at h
          · rename_i cs hcs
            split at h
            · rename_i w hw
              cases h
              have h3 := fillT_toA h1 hcs
              rw [← constTs_toA hcs0] at h3
              simp only [stepOp, hz, h2, hpl, if_true, h3, Option.map_some, packAggT_toA hw]
            · cases h
          · cases h
        · cases h
      · cases h
    · cases h
  · rename_i t n parts
    split at h
    · rename_i c e hc he
      split at h
      · rename_i ps hps
        split at h
        · rename_i xs hxs
          split at h
          · rename_i hcond
            cases h
            simp only [stepOp, he, plainsCT_toA hps, ofPDs_enc hS hxs, List.length_map, elemsOk_enc hS hc he, hcond, and_self, if_true, TV.toA, TL.toA]
          · cases h
        · cases h
      · cases h
    · cases h
  · rename_i x
    split at h
    · rename_i hv; cases h; simp only [stepOp, evT_eq hv (by simp)]; rfl
    · rename_i hv; cases h; simp only [stepOp, evT_eq hv (by simp)]; rfl
    · rename_i hv
      split at h
      · rename_i ho
        cases h
        have ho' := ho
        rw [← isOwn_toA, ← content_toA] at ho'
        simp only [stepOp, evT_eq hv (by simp), TV.toA, TL.toA, ho', if_true]
      · cases h
    · rename_i hv; cases h; simp only [stepOp, evT_eq hv (by simp)]; rfl
    · cases h
  · rename_i o t x
    split at h
    · rename_i a ha
      split at h
      · rename_i r hr
        cases h
        obtain ⟨u, w, h1, h2, h3⟩ := unT_does hr
        simp only [stepOp, plainCT_toA ha, PD.toD, h1, h2, Option.map_some, TV.toA, TL.toA, h3]
      · cases h
    · cases h
  · rename_i src dst x
    split at h
    · rename_i h1 h2 h3
      cases h
      simp only [stepOp, h1, h2, plainCT_toA h3, PD.toD, leafD, TV.toA, TL.toA]
    · rename_i h1 h2 h3
      cases h
      simp only [stepOp, h1, h2, plainCT_toA h3, PD.toD, leafD, TV.toA, TL.toA]
    · cases h
  · rename_i t x i
    split at h
    · rename_i off u hf
      split at h
      · rename_i m hm
        split at h
        · rename_i hv; cases h; simp only [stepOp, hf, hm, evT_eq hv (by simp), TV.toA, TL.toA]
        · rename_i hv; cases h; simp only [stepOp, hf, hm, evT_eq hv (by simp), TV.toA, TL.toA, List.map_drop]
        · rename_i hv
          split at h
          · rename_i ho
            cases h
            have ho' := ho
            rw [← isOwn_toA, ← content_toA] at ho'
            simp only [stepOp, hf, hm, evT_eq hv (by simp), TV.toA, TL.toA, ho', if_true]
          · cases h
        · cases h
      · cases h
    · cases h
  · rename_i t x i
    split at h
    · rename_i cs off u hp hf
      split at h
      · rename_i y hy
        cases h
        simp only [stepOp, plainCT_toA hp, hf, PD.toD, partT_toA hy, Option.map_some, TV.toA, TL.toA]
      · cases h
    · cases h
  · rename_i t i
    split at h
    · rename_i vs hv
      have h1 : get s.toS.env t = .tup (vs.map TL.toA) := by rw [show s.toS.env = envA s.env from rfl, get_envA, hv]; rfl
      split at h
      · rename_i x hx
        cases h
        simp only [stepOp, h1, List.getElem?_map, hx, Option.map_some, TL.toA, TV.toA]
      · rename_i o a hx
        cases h
        simp only [stepOp, h1, List.getElem?_map, hx, Option.map_some, TL.toA, TV.toA]
      · cases h
    · cases h
  · rename_i f first caps
    split at h
    · rename_i h0
      split at h
      · rename_i ps hps
        cases h
        simp only [stepOp, h0, if_true, capsT_toA hps, Option.map_some, TV.toA, TL.toA]
      · cases h
    · cases h
  · rename_i args argTypes
    split at h
    · rename_i x t h1 h2
      split at h
      · rename_i n hn
        cases h
        obtain ⟨h3, h4⟩ := lenT_toA hn
        simp only [stepOp, builtinOp, h1, h2, evT_toA h4, h3, Option.map_some]
        rfl
      · cases h
    · cases h
  · rename_i args argTypes
    split at h
    · rename_i x y h1
      split at h
      · rename_i κ a κ' b h2 h3
        cases h
        simp only [stepOp, builtinOp, h1, plainCT_toA h2, plainCT_toA h3, PD.toD, leafD, TV.toA, TL.toA]
      · cases h
    · cases h
  · rename_i args argTypes
    split at h
    · rename_i x y h1
      split at h
      · rename_i κ a κ' b h2 h3
        cases h
        simp only [stepOp, builtinOp, h1, plainCT_toA h2, plainCT_toA h3, PD.toD, leafD, TV.toA, TL.toA]
      · cases h
    · cases h
  · cases h

theorem replicate_enc (c : S.TC) (n : Nat) (x : S.Ty c) : (List.replicate n x).map (S.enc c) = List.replicate n (S.enc c x) := by simp

theorem stepT_does (hS : T.S.Ok T.E.P) {fl : Flag} {q : Bool} {ty : TypeId} {op : Op} {s : TSt T.S} {k : TV T.S → TSt T.S → Option β} {r : β} (h : stepT T fl q ty op s k = some r) :
    Does (stepOp T.E fl q op s.toS) k r := by
  unfold stepT at h
  split at h
  · rename_i t a
    have hne : evT T s 0 a ≠ .fl .undef := by
      intro e
      rw [e] at h
      unfold loadT at h
      split at h <;> cases h
    simp only [stepOp]
    rw [evT_toA hne]
    exact loadT_does hS h
  · rename_i c a b
    split at h
    · rename_i t hc
      split at h
      · split at h
        · rename_i x hx
          refine ⟨_, _, ?_, h⟩
          simp only [stepOp, evT_eq hc (by simp), TV.toA, TL.toA, PD.toD, leafD, if_true, plainCT_toA hx, Option.map_some]
        · cases h
      · split at h
        · rename_i x hx
          refine ⟨_, _, ?_, h⟩
          simp only [stepOp, evT_eq hc (by simp), TV.toA, TL.toA, PD.toD, leafD, Bool.false_eq_true, if_false, plainCT_toA hx, Option.map_some]
        · cases h
    · cases h
  · rename_i op t x y t'
    split at h
    · rename_i a b ha hb
      obtain ⟨u, v, z, h1, h2, w, h3, h4, h5⟩ := binT'_does h
      refine ⟨_, _, ?_, h5⟩
      simp only [stepOp, plainCT_toA ha, plainCT_toA hb, PD.toD, h1, h2, h3, Option.map_some, TV.toA, TL.toA, h4]
    · cases h
  · rename_i t x lo hi mx
    obtain ⟨v, h1, h2⟩ := sliceT_does hS h
    refine ⟨_, _, ?_, h2⟩
    simp only [stepOp, h1, Option.map_some]
  · rename_i t x i
    split at h
    · rename_i n hn
      obtain ⟨⟨w, h1, h2⟩, h3⟩ := indexAddrT_does hS h
      refine ⟨_, _, ?_, h2⟩
      simp only [stepOp, idx_ev hn, evT_toA h3, h1, Option.map_some]
    · cases h
  · rename_i t x i
    split at h
    · rename_i n l hu hn hp
      obtain ⟨h0, b, hb, hk⟩ := nth_some h
      refine ⟨_, _, ?_, hk⟩
      simp only [stepOp, idx_ev hn, plainCT_toA hp, PD.toD, leafD, indexOp, hu, h0, if_true, hb, Option.map_some, TV.toA, TL.toA]
    · cases h
  · rename_i t l c
    split at h
    · rename_i cd e n m he hte hl hc
      split at h
      · rename_i z b hz hb
        split at h
        · rename_i x hx
          split at h
          · rename_i hb2
            obtain ⟨hp, hk⟩ := chk_some h
            refine ⟨_, _, ?_, hk⟩
            have h1 : ((tyZero T.E.P e).bind fun z => freeze (constAV z)) = some (T.S.enc cd x) := by
              cases hz0 : tyZero T.E.P e with
              | none => rw [hz0] at hz; cases hz
              | some z0 =>
                rw [hz0] at hz
                simp only [Option.bind_some] at hz ⊢
                rw [constTV_toA (by intro hh; rw [hh] at hz; cases hz), freezeP_toA hz, ofPD_enc hS hx]
            have h2 := elemsOk_enc hS he hte [x]
            simp only [List.map_cons, List.map_nil] at h2
            simp only [stepOp, hte, plainCT_toA hl, plainCT_toA hc, PD.toD, leafD, h1, hb]
            rw [if_pos ⟨hp.1, hp.2.1, hp.2.2, hb2, h2⟩]
            simp only [TV.toA, TL.toA, replicate_enc]
          · cases h
        · cases h
      · cases h
    · cases h
  · rename_i args argTypes
    split at h
    · rename_i x y t u h1 h2
      split at h
      · rename_i htu
        subst htu
        obtain ⟨v, s1, h3, h4⟩ := appendT_does hS h
        refine ⟨v, s1, ?_, h4⟩
        simp only [stepOp, builtinOp, h1, h2, if_true, h3]
      · cases h
    · cases h
  · split at h
    · rename_i v s1 hp
      exact ⟨v, s1, plainOp_toA hS hp, h⟩
    · cases h
end Go.Ab
