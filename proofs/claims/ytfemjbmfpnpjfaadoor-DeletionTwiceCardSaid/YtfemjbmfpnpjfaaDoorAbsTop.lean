/- From the abstract machine to a call in any world. -/
import Derived.Test.YtfemjbmfpnpjfaaDoorAbsAny
import Derived.ProofKit
namespace Go.Ab

variable {E : Env0} {W : World}

/-- All memory that is there may be read, and nobody writes it. -/
def Cx.top : Cx := { mu := [], G := fun _ => none, amb := fun _ _ => True }
def anyMem : Nat → Nat → Prop := fun _ _ => True

theorem Rep.top {d : D} {v : Value} (h : Rep W anyMem d v) : Rep W Cx.top.imm d v := h.mono fun _ _ _ hc _ => ⟨hc, trivial, fun _ _ e => by cases e⟩

/-- The listed package variables hold what is told of them. -/
def GlobOk (E : Env0) (W : World) : Prop := ∀ g cs, E.glob g = some cs → ∀ (j : Nat) c, cs[j]? = some c → ∃ u, W.cell? ⟨g, j, none⟩ = some u ∧ Rep W anyMem c u

theorem top_H (hg : GlobOk E W) : HRel E Cx.top [] W := by
  refine ⟨fun t => trivial, fun t ht => ?_, rfl, fun o cs hcs => by simp at hcs, fun b l k e => (by cases e), fun _ _ _ => trivial, fun b l k e => (by cases e), fun g cs hgc j c hj => ?_, rfl⟩
  · obtain ⟨v, hv, hne⟩ := ht
    exact absurd hv.symm hne
  · obtain ⟨u, h1, h2⟩ := hg g cs hgc j c hj
    exact ⟨u, h1, ⟨trivial, fun _ _ e => by cases e⟩, h2.top⟩

/-- What the abstract machine answers, the model answers; below the old memory's end nothing has turned. -/
theorem top {n : Nat} (hc : CallOk E n) (hg : GlobOk E W) {f : FuncId} {ds : List D} {args : Array Value} {r : Value} {h' : Heap} (hcall : call E n f (ds.map .d) [] = some (.d (.v r), h'))
    (hs : args.size = ds.length) (ha : ∀ (i : Nat) d, ds[i]? = some d → Rep W anyMem d (args.getD i undef)) : Calls E.P f args W fun e w' => e = .returned r ∧ RowKit.Below W.heap.size W w' := by
  refine (hc f _ [] _ h' hcall Cx.top W args (top_H hg) ⟨by simpa using hs, fun i v hi => ?_⟩).mono ?_
  · rw [List.getElem?_map] at hi
    cases hd : ds[i]? with
    | none => rw [hd] at hi; cases hi
    | some d =>
      rw [hd] at hi
      simp only [Option.map_some, Option.some.injEq] at hi
      subst hi
      exact ⟨rfl, (ha i d hd).top⟩
  · rintro e w' ⟨val, rfl, X1, _, hE, _, _, _, _, hr⟩
    have hv : val = r := rep_value (show Rep w' X1.imm (.v r) val from hr)
    subst hv
    exact ⟨rfl, hE.os, hE.tape, hE.output, hE.size, fun k hk => (hE.free k hk rfl).2⟩

/-- A list of numbers, as a slice shows it. -/
def ints (k : IntKind) (zs : List Int) : D := .list (zs.map fun z => .v (.int k z))

theorem rep_ints_nil (k : IntKind) (a : Option Addr) (c : Nat) : Rep W anyMem (ints k []) (.slice a 0 c) := .empty a c

theorem rep_ints {k : IntKind} {a : Addr} {len cap : Nat} {zs : List Int} (hz : len ≤ zs.length) (hc : len ≤ cap) (hcell : ∀ i, i < zs.length → W.cell? (a.add i) = some (.int k (zs.getD i 0))) :
    Rep W anyMem (ints k (zs.take len)) (.slice (some a) len cap) := by
  by_cases h0 : len = 0
  · subst h0; exact .empty _ _
  · have hsp : a.spot = none := by
      have := hcell 0 (by omega)
      simp only [Addr.add, if_true, World.cell?] at this
      split at this
      · split at this
        · cases this
        · rename_i h; simpa using h
      · cases this
    obtain ⟨b, off, sp⟩ := a
    simp only at hsp
    subst hsp
    have hlen : ((zs.take len).map fun z => D.v (.int k z)).length = len := by simp; omega
    have key := Rep.list (w := W) (I := anyMem) ((zs.take len).map fun z => D.v (.int k z)) b off cap 1 (fun i _ => .int k (zs.getD i 0)) (fun x hx => by
        obtain ⟨z, _, rfl⟩ := List.mem_map.1 hx; rfl) (by rw [hlen]; exact hc)
      (fun i x hx j c hj => by
        have hi : i < len := by rw [← hlen]; exact (List.getElem?_eq_some_iff.1 hx).1
        rw [List.getElem?_map] at hx
        cases hz' : (zs.take len)[i]? with
        | none => rw [hz'] at hx; cases hx
        | some z =>
          rw [hz'] at hx
          simp only [Option.map_some, Option.some.injEq] at hx
          subst hx
          cases j with
          | zero =>
            refine ⟨?_, trivial⟩
            have := hcell i (by omega)
            rw [WideShapes.add_plain] at this
            simpa using this
          | succ j => simp [D.cells] at hj)
      (fun i x hx j c hj => by
        have hi : i < len := by rw [← hlen]; exact (List.getElem?_eq_some_iff.1 hx).1
        have hil : i < zs.length := by omega
        rw [List.getElem?_map, List.getElem?_take, if_pos hi, List.getElem?_eq_getElem hil] at hx
        simp only [Option.map_some, Option.some.injEq] at hx
        subst hx
        cases j with
        | zero =>
          simp only [D.cells, List.getElem?_cons_zero, Option.some.injEq] at hj
          subst hj
          have : zs.getD i 0 = zs[i] := by simp [List.getD, hil]
          show Rep W anyMem (.v (.int k zs[i])) (.int k (zs.getD i 0))
          rw [this]
          exact .v _ rfl
        | succ j => simp [D.cells] at hj)
    rw [hlen] at key
    exact key

end Go.Ab
