/- The typed machine is sound: what it computes of a function, a call of it comes to on the abstract machine. -/
import Derived.Test.YtfemjbmfpnpjfaaDoorTypCode
namespace Go.Ab
variable {S : Sig} {β : Type} {T : TEn} {P : Program}

def Runs (A : Nat → Option St) (k : TSt S → Option β) (x : β) : Prop := ∃ n s1, A n = some (TSt.toS s1) ∧ k s1 = some x

theorem callT_runs {r : Rule} {h : FuncId} {vs : List (TL T.S)} {dst : Option Nat} {s : TSt T.S} {k : TSt T.S → Option β} {x : β} (hh : callT T r h vs dst s k = some x) :
    Runs (fun n => callA T.E r n h (vs.map TL.toA) dst s.toS) k x := by
  unfold callT at hh
  split at hh
  · cases hh
  · rename_i objs ho
    split at hh
    · rename_i hm
      split at hh
      · rename_i hs hhs
        split at hh
        · rename_i y hy
          split at hh
          · cases hh
          · rename_i hd
            obtain ⟨m, hc⟩ := callC_sem hy
            refine ⟨m + 1, _, ?_, hh⟩
            have hl : s.toS.heap.length = s.heap.length := by simp [TSt.toS, heapA]
            simp only [callA, ptrs_flat, show s.toS.heap = heapA s.heap from rfl, show (heapA s.heap).length = s.heap.length by simp [heapA], ho, hm, if_true, cellsAt_toA, hhs, Option.map_some, ren_list, ren_heap, hc]
            have hlen : (heapA (heapOf (specOf T h (hs.map fun cs => cs.map (renT (objs.idxOf ·)))) y)).length = (specOf T h (hs.map fun cs => cs.map (renT (objs.idxOf ·)))).heap.length := by
              simp only [heapA, heapOf, List.length_map]
              generalize vals _ y = l
              have : ∀ (ns : List Nat) (l : List (TL T.S)), (splitLens ns l).length = ns.length := by
                intro ns; induction ns with
                | nil => intro l; rfl
                | cons n r ih => intro l; simp only [splitLens, List.length_cons, ih]
              rw [this, List.length_map]
            rw [hlen, if_neg hd, renAll_toA, backIn_toS, put_toS]
        · cases hh
      · cases hh
    · cases hh

theorem argT_toA {s : TSt T.S} {t : TypeId} {x : Operand} {v : TL T.S} (h : argT T s t x = some v) : argOf T.E s.toS x = some v.toA := by
  unfold argT at h
  have key : ∀ {p : PD T.S}, plainCT T s t x = some p → argOf T.E s.toS x = some (AV.d p.toD) := by
    intro p hp
    have h1 := plainCT_toA hp
    simp only [argOf]
    split
    · rename_i o a hv
      cases x with
      | const c =>
        have h2 : constAV c = AV.ptr o a := hv
        have h3 : plainC T.E s.toS (.const c) = freeze (constAV c) := rfl
        rw [h3, h2] at h1; cases h1
      | _ => simp only [plainC, hv, plain] at h1; cases h1
    · rename_i o a hv
      cases x with
      | const c =>
        have h2 : constAV c = AV.fn o a := hv
        have h3 : plainC T.E s.toS (.const c) = freeze (constAV c) := rfl
        rw [h3, h2] at h1; cases h1
      | _ => simp only [plainC, hv, plain] at h1; cases h1
    · rename_i a hv
      cases x with
      | const c =>
        have h2 : constAV c = AV.view a := hv
        have h3 : plainC T.E s.toS (.const c) = freeze (constAV c) := rfl
        rw [h3, h2] at h1; cases h1
      | _ => simp only [plainC, hv, plain] at h1; cases h1
    · rw [h1]; rfl
  split at h
  · rename_i hv; cases h; simp only [argOf, evT_eq hv (by simp)]; rfl
  · rename_i hv; cases h; simp only [argOf, evT_eq hv (by simp)]; rfl
  · rename_i hv; cases h; simp only [argOf, evT_eq hv (by simp)]; rfl
  · split at h
    · rename_i p hp
      cases h
      exact key hp
    · cases h
theorem argsT_toA {s : TSt T.S} : ∀ {l : List Operand} {ts : List TypeId} {vs : List (TL T.S)}, argsT T s ts l = some vs → argsOf T.E s.toS l = some (vs.map TL.toA)
  | [], ts, vs, h => by simp only [argsT, Option.some.injEq] at h; subst h; rfl
  | x :: r, ts, vs, h => by
    simp only [argsT] at h
    split at h
    · rename_i v vs' h1 h2
      cases h
      simp only [argsOf, argT_toA h1, argsT_toA h2, List.map_cons]
    · cases h

theorem guard_skip {ops : Array Oper} {s : St} {o : Oper} {j t : Nat} {want : Bool} (hg : o.guard = some (j, want)) (ht : (ops[j]?).bind (·.dst) = some t) :
    guardOf ops s o = match get s.env t with | .d (.v (.bool b)) => some (b == want) | .skipped => some false | _ => none := by
  simp only [guardOf, hg]
  cases hj : ops[j]? with
  | none => rw [hj] at ht; cases ht
  | some p =>
    rw [hj] at ht
    simp only [Option.bind_some] at ht
    simp only [Option.bind_some, ht, Option.map_some]
    generalize get s.env t = w
    cases w with
    | d y => cases y with
      | v u => cases u <;> rfl
      | _ => rfl
    | _ => rfl

theorem doOpT_runs (hS : T.S.Ok T.E.P) {F : Fx} {r : Rule} {ops : Array Oper} {o : Oper} {s : TSt T.S} {k : TSt T.S → Option β} {x : β} (hg : guardOf ops s.toS o = some true) (h : doOpT T F r ops o s k = some x) :
    Runs (fun n => runOp T.E F.f r ops n o s.toS) k x := by
  unfold doOpT at h
  split at h
  · rename_i t a y ho
    split at h
    · rename_i hd
      obtain ⟨s1, h1, h2⟩ := storeT_puts hS h
      exact ⟨1, s1, by simp only [runOp, hg, ho, hd, if_true, h1], h2⟩
    · cases h
  · rename_i g args argTypes ho
    split at h
    · rename_i f caps vs hv hvs
      obtain ⟨n, s1, h1, h2⟩ := callT_runs h
      refine ⟨n + 1, s1, ?_, h2⟩
      simp only [runOp, hg, ho, evT_eq hv (by simp), TV.toA, TL.toA, argsT_toA hvs]
      rw [← h1, List.map_append]
      congr 2
      simp [List.map_map, Function.comp_def, TL.toA]
    · cases h
  · rename_i hns hnc
    split at h
    · rename_i hr
      obtain ⟨v, s1, h1, h2⟩ := stepT_does hS h
      simp only at h2
      split at h2
      · rename_i w hw
        refine ⟨1, _, ?_, h2⟩
        have hk := keepT_toA hw
        simp only [runOp, hg]
        simp only [hr, if_true, h1, hk, del_toS, put_toS]
      · cases h2
    · cases h

theorem toS_repl {s : TSt S} {t : Nat} {v : TV S} (h : getT s.env t = v) : ({ s with env := replT s.env t v } : TSt S) = s := by
  rw [repl_self h]

theorem opT_runs (hS : T.S.Ok T.E.P) {F : Fx} {r : Rule} {ops : Array Oper} {o : Oper} {s : TSt T.S} {k : TSt T.S → Option β} {x : β} (h : opT T F r ops o s k = some x) :
    Runs (fun n => runOp T.E F.f r ops n o s.toS) k x := by
  unfold opT at h
  split at h
  · rename_i hg
    exact doOpT_runs hS (by simp only [guardOf, hg]) h
  · rename_i j want hg
    split at h
    · cases h
    · rename_i t ht
      have hgo := guard_skip (s := s.toS) hg ht
      rw [show s.toS.env = envA s.env from rfl, get_envA] at hgo
      split at h
      · rename_i b hb
        rw [hb] at hgo
        simp only [TV.toA, TL.toA, PD.toD, leafD] at hgo
        split at h
        · rw [toS_repl hb] at h
          cases want with
          | true => exact doOpT_runs hS hgo h
          | false => exact ⟨1, _, by simp only [runOp, hgo]; exact congrArg some (put_toS s o.dst (.fl .skipped)), h⟩
        · rw [toS_repl hb] at h
          cases want with
          | true => exact ⟨1, _, by simp only [runOp, hgo]; exact congrArg some (put_toS s o.dst (.fl .skipped)), h⟩
          | false => exact doOpT_runs hS hgo h
      · rename_i hb
        rw [hb] at hgo
        simp only [TV.toA, TL.toA] at hgo
        exact ⟨1, _, by simp only [runOp, hgo]; exact congrArg some (put_toS s o.dst (.fl .skipped)), h⟩
      · cases h

theorem runOps_le {E : Env0} {f : FuncId} {r : Rule} {ops : Array Oper} {l : List Oper} {s s1 : St} {n m : Nat} (h : runOps E f r ops n l s = some s1) (hle : n ≤ m) : runOps E f r ops m l s = some s1 := by
  induction hle with
  | refl => exact h
  | step _ ih => exact (mono _).ops _ _ _ _ _ _ ih
theorem runOp_le {E : Env0} {f : FuncId} {r : Rule} {ops : Array Oper} {o : Oper} {s s1 : St} {n m : Nat} (h : runOp E f r ops n o s = some s1) (hle : n ≤ m) : runOp E f r ops m o s = some s1 := by
  induction hle with
  | refl => exact h
  | step _ ih => exact (mono _).op _ _ _ _ _ _ ih
theorem opsT_runs (hS : T.S.Ok T.E.P) {F : Fx} {r : Rule} {ops : Array Oper} : ∀ {l : List Oper} {s : TSt T.S} {k : TSt T.S → Option β} {x : β}, opsT T F r ops l s k = some x →
    Runs (fun n => runOps T.E F.f r ops n l s.toS) k x
  | [], s, k, x, h => ⟨0, s, rfl, h⟩
  | o :: l, s, k, x, h => by
    obtain ⟨n, s1, h1, h2⟩ := opT_runs hS h
    obtain ⟨m, s2, h3, h4⟩ := opsT_runs hS h2
    refine ⟨max n m, s2, ?_, h4⟩
    simp only [runOps_cons, runOp_le h1 (Nat.le_max_left n m), runOps_le h3 (Nat.le_max_right n m)]

theorem outT_toA {v : TV S} {x : TL S} (h : outT v = some x) : outOf v.toA = some x.toA := by
  unfold outT at h
  split at h
  · cases h; rfl
  · cases h; rfl
  · split at h
    · rename_i p hp
      cases h
      have h1 := freezeP_toA hp
      unfold outOf
      split
      · rename_i hv; rw [hv] at h1; cases h1
      · rename_i hv; rw [hv] at h1; cases h1
      · rw [h1]; rfl
    · cases h
theorem resultT_toA {P : Program} {s : TSt S} {r : ResultVar} {v : TL S} (h : resultT P s r = some v) : resultOf P s.toS r = some v.toA := by
  unfold resultT at h
  unfold resultOf
  cases r with
  | tmp t =>
    simp only at h ⊢
    rw [show s.toS.env = envA s.env from rfl, get_envA]
    exact outT_toA h
  | cell a t =>
    simp only at h ⊢
    rw [show s.toS.env = envA s.env from rfl, get_envA]
    split at h
    · rename_i o off hv
      rw [hv]
      simp only [TV.toA, TL.toA]
      rw [show s.toS.heap = heapA s.heap from rfl, heap_get]
      split at h
      · rename_i n cs h1 h2 h3
        rw [h1, h2, h3]
        simp only [Option.map_some]
        split at h
        · rename_i hle
          rw [List.length_map, if_pos hle]
          split at h
          · rename_i ds hds
            cases h
            have h4 : ((cs.map TL.toA).drop off).take n = ((cs.drop off).take n).map TL.toA := by simp [List.map_take, List.map_drop]
            rw [h4, freezeTs_toA hds]; rfl
          · cases h
        · cases h
      · rename_i cs h1 h3
        rw [h1, h3]
        simp only [Option.map_some]
        split at h
        · rename_i w hw
          simp only [List.getElem?_map, hw, Option.map_some]
          exact outT_toA (v := .fl w) h
        · cases h
      · cases h
    · cases h
theorem resultsT_toA {P : Program} {s : TSt S} : ∀ {l : List ResultVar} {vs : List (TL S)}, resultsT P s l = some vs → resultsOf P s.toS l = some (vs.map TL.toA)
  | [], vs, h => by simp only [resultsT, Option.some.injEq] at h; subst h; rfl
  | r :: l, vs, h => by
    simp only [resultsT] at h
    split at h
    · rename_i v vs' h1 h2
      cases h
      simp only [resultsOf, resultT_toA h1, resultsT_toA h2, List.map_cons]
    · cases h
theorem ptrs_heap (h : THeap S) (k : Nat) : ((heapA h).take k).flatMap (fun cs => cs.flatMap ptrsOf) = (h.take k).flatMap fun cs => cs.flatMap ptrsT := by
  rw [heapA, ← List.map_take]
  generalize h.take k = l
  induction l with
  | nil => rfl
  | cons cs r ih => simp only [List.map_cons, List.flatMap_cons, ptrs_flat, ih]
theorem ptrs_heap' (h : THeap S) : (heapA h).flatMap (fun cs => cs.flatMap ptrsOf) = h.flatMap fun cs => cs.flatMap ptrsT := by
  have := ptrs_heap h h.length
  rwa [List.take_length, show h.length = (heapA h).length by simp [heapA], List.take_length] at this
theorem fresh_toA {s : TSt S} {k : Nat} (l : List ResultVar) : l.all (freshRes s.toS k) = l.all (freshT s k) := by
  congr 1
  funext r
  cases r with
  | tmp t => rfl
  | cell a t =>
    simp only [freshRes, freshT]
    rw [show s.toS.env = envA s.env from rfl, get_envA]
    cases getT s.env a with
    | fl x => cases x <;> rfl
    | _ => rfl

theorem leaveT_leaves (hS : S.Ok P) {F : Fx} {o : OSpec S} {s : TSt S} {x : o.Out} (h : leaveT P F o s = some x) : leave P F.fn F.k s.toS = some (packRes ((resOf o x).map TL.toA), heapA (heapOf o x)) := by
  unfold leaveT at h
  unfold leave
  split at h
  · cases h
  · rename_i vs hvs
    rw [resultsT_toA hvs]
    simp only [ptrs_flat, show s.toS.heap = heapA s.heap from rfl, ptrs_heap, ptrs_heap', show (heapA s.heap).length = s.heap.length by simp [heapA], fresh_toA]
    split at h
    · rename_i hc
      rw [if_pos hc]
      obtain ⟨⟨h1, h2, h3⟩, h4⟩ := if_opt h
      obtain ⟨h5, h6⟩ := out_toA hS h2 h3 h4
      rw [if_pos h1, h5, h6]
      simp [heapA, List.map_take]
    · rename_i hc
      rw [if_neg hc]
      obtain ⟨⟨h1, h2, h3⟩, h4⟩ := if_opt h
      obtain ⟨h5, h6⟩ := out_toA hS h2 h3 h4
      rw [if_pos h1, h5, h6]

/-- Behind a piece of code. -/
def KGoes (T : TEn) (F : Fx) (o : OSpec T.S) (ex : Ex) (K : List Fr) (s : St) (x : o.Out) : Prop :=
  ∃ n ex' s2, unw T.E F.f n K ex s = some (ex', s2) ∧ fin T.E.P F.fn F.k ex' s2 = some (packRes ((resOf o x).map TL.toA), heapA (heapOf o x))

theorem goes_of {F : Fx} {o : OSpec T.S} {c : Code} {K : List Fr} {s s1 : St} {ex : Ex} {x : o.Out} {n : Nat} (h : exec T.E F.f n c s = some (ex, s1)) (hk : KGoes T F o ex K s1 x) :
    Goes T.E F c K s (packRes ((resOf o x).map TL.toA), heapA (heapOf o x)) := by
  obtain ⟨m, ex', s2, h1, h2⟩ := hk
  exact ⟨max n m, ex, s1, ex', s2, exec_le h (Nat.le_max_left n m), unw_le (Nat.le_max_right n m) h1, h2⟩
theorem kgoes_of {F : Fx} {o : OSpec T.S} {c : Code} {K : List Fr} {s : St} {x : o.Out} (h : Goes T.E F c K s (packRes ((resOf o x).map TL.toA), heapA (heapOf o x))) :
    ∃ n ex s1, exec T.E F.f n c s = some (ex, s1) ∧ KGoes T F o ex K s1 x := by
  obtain ⟨n, ex, s1, ex', s2, h1, h2, h3⟩ := h
  exact ⟨n, ex, s1, h1, n, ex', s2, h2, h3⟩

theorem k_seq {F : Fx} {o : OSpec T.S} {b : Code} {K : List Fr} {s : St} {x : o.Out} (h : Goes T.E F b K s (packRes ((resOf o x).map TL.toA), heapA (heapOf o x))) : KGoes T F o .normal (.seq b :: K) s x := by
  obtain ⟨n, ex, s1, ex', s2, h1, h2, h3⟩ := h
  exact ⟨n, ex', s2, by simp only [unw, h1]; exact h2, h3⟩
theorem k_loop {F : Fx} {o : OSpec T.S} {b : Code} {m : Nat} {K : List Fr} {s : St} {x : o.Out} (h : Goes T.E F (.loop b) K (trim m s) (packRes ((resOf o x).map TL.toA), heapA (heapOf o x))) : KGoes T F o .normal (.loop b m :: K) s x := by
  obtain ⟨n, ex, s1, ex', s2, h1, h2, h3⟩ := h
  exact ⟨n, ex', s2, by simp only [unw, h1]; exact h2, h3⟩

theorem k_leave (hS : T.S.Ok T.E.P) {F : Fx} {o : OSpec T.S} {s : TSt T.S} {x : o.Out} (h : leaveT T.E.P F o s = some x) (K : List Fr) : KGoes T F o .ret K s.toS x :=
  ⟨0, .ret, s.toS, unw_ret K _, leaveT_leaves hS h⟩

theorem go_seq {F : Fx} {o : OSpec T.S} {a b : Code} {K : List Fr} {s : St} {x : o.Out} (h : Goes T.E F a (.seq b :: K) s (packRes ((resOf o x).map TL.toA), heapA (heapOf o x))) :
    Goes T.E F (.seq a b) K s (packRes ((resOf o x).map TL.toA), heapA (heapOf o x)) := by
  obtain ⟨n, ex, s1, ex', s2, h1, h2, h3⟩ := h
  cases ex with
  | normal =>
    simp only [unw] at h2
    split at h2
    · rename_i e3 s3 h4
      exact ⟨n + 1, e3, s3, ex', s2, by rw [exec_seq, h1]; exact h4, unw_le (Nat.le_succ n) h2, h3⟩
    · cases h2
  | exit i => simp only [unw] at h2; exact ⟨n + 1, _, s1, ex', s2, by rw [exec_seq, h1], unw_le (Nat.le_succ n) h2, h3⟩
  | ret => simp only [unw] at h2; exact ⟨n + 1, _, s1, ex', s2, by rw [exec_seq, h1], unw_le (Nat.le_succ n) h2, h3⟩
theorem go_block {F : Fx} {o : OSpec T.S} {id : Nat} {b : Code} {K : List Fr} {s : St} {x : o.Out} (h : Goes T.E F b (.block id s.heap.length :: K) s (packRes ((resOf o x).map TL.toA), heapA (heapOf o x))) :
    Goes T.E F (.block id b) K s (packRes ((resOf o x).map TL.toA), heapA (heapOf o x)) := by
  obtain ⟨n, ex, s1, ex', s2, h1, h2, h3⟩ := h
  cases ex with
  | normal => simp only [unw] at h2; exact ⟨n + 1, _, _, ex', s2, by rw [exec_block, h1], unw_le (Nat.le_succ n) h2, h3⟩
  | exit i =>
    simp only [unw] at h2
    split at h2
    · rename_i hi
      exact ⟨n + 1, .normal, _, ex', s2, by rw [exec_block, h1]; simp only [hi, if_true], unw_le (Nat.le_succ n) h2, h3⟩
    · rename_i hi
      exact ⟨n + 1, .exit i, s1, ex', s2, by rw [exec_block, h1]; simp only [hi, if_false], unw_le (Nat.le_succ n) h2, h3⟩
  | ret => simp only [unw] at h2; exact ⟨n + 1, _, s1, ex', s2, by rw [exec_block, h1], unw_le (Nat.le_succ n) h2, h3⟩
theorem go_loop {F : Fx} {o : OSpec T.S} {b : Code} {K : List Fr} {s : St} {x : o.Out} (h : Goes T.E F b (.loop b s.heap.length :: K) s (packRes ((resOf o x).map TL.toA), heapA (heapOf o x))) :
    Goes T.E F (.loop b) K s (packRes ((resOf o x).map TL.toA), heapA (heapOf o x)) := by
  obtain ⟨n, ex, s1, ex', s2, h1, h2, h3⟩ := h
  cases ex with
  | normal =>
    simp only [unw] at h2
    split at h2
    · rename_i e3 s3 h4
      exact ⟨n + 1, e3, s3, ex', s2, by rw [exec_loop, h1]; exact h4, unw_le (Nat.le_succ n) h2, h3⟩
    · cases h2
  | exit i => simp only [unw] at h2; exact ⟨n + 1, _, s1, ex', s2, by rw [exec_loop, h1], unw_le (Nat.le_succ n) h2, h3⟩
  | ret => simp only [unw] at h2; exact ⟨n + 1, _, s1, ex', s2, by rw [exec_loop, h1], unw_le (Nat.le_succ n) h2, h3⟩
theorem len_toS (s : TSt S) : s.toS.heap.length = s.heap.length := by simp [TSt.toS, heapA]

theorem replO_self {s : TSt T.S} {x : Operand} {v : TV T.S} (h : evT T s 0 x = v) : replO s x v = s := by
  cases x with
  | tmp t => exact toS_repl (s := s) (t := t) h
  | _ => rfl

theorem te_sound (hS : T.S.Ok T.E.P) (F : Fx) (o : OSpec T.S) : ∀ (n : Nat),
    (∀ (c : Code) (K : List Fr) (s : TSt T.S) (x : o.Out), te T F o n c K s = some x → BSem T F o c K s x) ∧
    (∀ (ex : Ex) (K : List Fr) (s : TSt T.S) (x : o.Out), teK T F o n ex K s = some x → KGoes T F o ex K s.toS x)
  | 0 => ⟨fun c K s x h => goC_sem h, fun ex K s x h => by cases h⟩
  | n + 1 => by
    obtain ⟨ih, ihK⟩ := te_sound hS F o n
    constructor
    · intro c K s x h
      unfold BSem
      have hseq1 : ∀ m, exec T.E F.f (m + 1) .skip s.toS = some (.normal, s.toS) := fun _ => rfl
      unfold te at h
      cases c with
      | skip => exact goes_of (n := 1) rfl (ihK _ _ _ _ h)
      | label l => exact goes_of (n := 1) rfl (ihK _ _ _ _ h)
      | region id ops draw =>
        simp only at h
        cases draw with
        | true =>
          simp only at h
          split at h
          · rename_i l hl
            have hfr : freshB T.E.an F.f ops s.toS = true := by
              cases hfb : freshB T.E.an F.f ops s.toS with
              | true => rfl
              | false => simp [hfb] at h
            simp only [hfr, Bool.true_eq_false, if_false] at h
            obtain ⟨m, s1, h1, h2⟩ := opsT_runs hS h
            refine goes_of (n := m + 1) (ex := .normal) (s1 := { s1.toS with env := clearE s1.toS.env (T.E.an.clear F.f id) }) ?_ ?_
            · rw [exec_region]
              simp only [if_true, hfr, Bool.true_eq_false, if_false, hl, List.map_cons, List.map_nil, agree, h1]
            · have := ihK _ _ _ _ h2
              simp only [TSt.toS] at this ⊢
              rw [clearE_envA]; exact this
          · cases h
        | false =>
          simp only at h
          obtain ⟨m, s1, h1, h2⟩ := opsT_runs hS h
          refine goes_of (n := m + 1) (ex := .normal) (s1 := { s1.toS with env := clearE s1.toS.env (T.E.an.clear F.f id) }) ?_ ?_
          · rw [exec_region]
            simp only [Bool.false_eq_true, if_false, h1]
          · have := ihK _ _ _ _ h2
            simp only [TSt.toS] at this ⊢
            rw [clearE_envA]; exact this
      | seq a b => exact go_seq (ih _ _ _ _ h)
      | cond y a b =>
        simp only at h
        split at h
        · rename_i t ht
          have hev := evT_eq ht (by simp)
          split at h
          · rw [replO_self ht] at h
            obtain ⟨m, ex, s1, h1, h2⟩ := kgoes_of (ih _ _ _ _ h)
            exact goes_of (n := m + 1) (by rw [exec_cond, hev]; exact h1) h2
          · rw [replO_self ht] at h
            obtain ⟨m, ex, s1, h1, h2⟩ := kgoes_of (ih _ _ _ _ h)
            exact goes_of (n := m + 1) (by rw [exec_cond, hev]; exact h1) h2
        · cases h
      | block id b =>
        refine go_block ?_
        rw [len_toS]
        exact ih _ _ _ _ h
      | loop b => exact goC_sem h
      | exit id => exact goes_of (n := 1) rfl (ihK _ _ _ _ h)
      | ret => exact goes_of (n := 1) rfl (k_leave hS h K)
      | _ => cases h
    · intro ex K s x h
      unfold teK at h
      split at h
      · exact k_leave hS h _
      · exact ⟨0, .normal, s.toS, rfl, leaveT_leaves hS h⟩
      · split at h
        · exact k_seq (goC_sem h)
        · exact k_seq (ih _ _ _ _ h)
      · obtain ⟨m, e2, s2, h1, h2⟩ := ihK _ _ _ _ h
        rw [← trim_toS] at h1
        exact ⟨m, e2, s2, by simp only [unw]; exact h1, h2⟩
      · refine k_loop ?_
        rw [trim_toS]
        exact goC_sem h
      · obtain ⟨m, e2, s2, h1, h2⟩ := ihK _ _ _ _ h
        exact ⟨m, e2, s2, by simp only [unw]; exact h1, h2⟩
      · split at h
        · rename_i hi
          obtain ⟨m, e2, s2, h1, h2⟩ := ihK _ _ _ _ h
          rw [← trim_toS] at h1
          exact ⟨m, e2, s2, by simp only [unw, hi, if_true]; exact h1, h2⟩
        · rename_i hi
          obtain ⟨m, e2, s2, h1, h2⟩ := ihK _ _ _ _ h
          exact ⟨m, e2, s2, by simp only [unw, hi, if_false]; exact h1, h2⟩
      · obtain ⟨m, e2, s2, h1, h2⟩ := ihK _ _ _ _ h
        exact ⟨m, e2, s2, by simp only [unw]; exact h1, h2⟩
      · cases h

/-- A piece of code, computed. -/
theorem goC_le (hS : T.S.Ok T.E.P) {F : Fx} {o : OSpec T.S} {c : Code} {K : List Fr} {s : TSt T.S} (n : Nat) {p : Option o.Out} (h : te T F o n c K s = p) : Le p (goC T F o c K s) :=
  fun r hr => goC_of hS ((te_sound hS F o n).1 c K s r (h.trans hr))
theorem goC_loop (hS : T.S.Ok T.E.P) {F : Fx} {o : OSpec T.S} {b : Code} {K : List Fr} {s : TSt T.S} (n : Nat) {p : Option o.Out} (h : te T F o n b (.loop b s.heap.length :: K) s = p) : Le p (goC T F o (.loop b) K s) :=
  fun r hr => goC_of hS (go_loop (by rw [len_toS]; exact (te_sound hS F o n).1 b (.loop b s.heap.length :: K) s r (h.trans hr)))

theorem goC_loopAt (hS : T.S.Ok T.E.P) {F : Fx} {o : OSpec T.S} {b c : Code} {K : List Fr} {s : TSt T.S} (n : Nat) {p : Option o.Out} (hc : c = .loop b) (h : te T F o n b (.loop b s.heap.length :: K) s = p) : Le p (goC T F o c K s) := by
  subst hc; exact goC_loop hS n h
/-- A piece of code by its way, and what stands behind it. -/
def codeIn : List Nat → Code → Code
  | 0 :: r, .seq a _ => codeIn r a
  | 1 :: r, .seq _ b => codeIn r b
  | 0 :: r, .cond _ a _ => codeIn r a
  | 1 :: r, .cond _ _ b => codeIn r b
  | 0 :: r, .block _ b => codeIn r b
  | 0 :: r, .loop b => codeIn r b
  | _, c => c
def kontIn : List Nat → Code → List Nat → List Fr → List Fr
  | 0 :: r, .seq a b, ms, K => kontIn r a ms (.seq b :: K)
  | 1 :: r, .seq _ b, ms, K => kontIn r b ms K
  | 0 :: r, .cond _ a _, ms, K => kontIn r a ms K
  | 1 :: r, .cond _ _ b, ms, K => kontIn r b ms K
  | 0 :: r, .block id b, ms, K => kontIn r b ms.tail (.block id (ms.headD 0) :: K)
  | 0 :: r, .loop b, ms, K => kontIn r b ms.tail (.loop b (ms.headD 0) :: K)
  | _, _, _, K => K

theorem inj_int {k : IntKind} {a b : Int} (h : D.v (.int k a) = D.v (.int k b)) : a = b := by injection h with h; injection h
theorem inj_bool {a b : Bool} (h : D.v (.bool a) = D.v (.bool b)) : a = b := by injection h with h; injection h
theorem inj_str {a b : List UInt8} (h : D.v (.string ⟨⟨a⟩⟩) = D.v (.string ⟨⟨b⟩⟩)) : a = b := by
  injection h with h; injection h with h; injection h with h; injection h
theorem inj_list {α : Type} {e : α → D} (he : ∀ a b, e a = e b → a = b) {xs ys : List α} (h : D.list (xs.map e) = D.list (ys.map e)) : xs = ys := by
  injection h with h; exact (List.map_inj_right (fun a b hab => he a b hab)).1 h

def bindT : Nat → List (TL S) → TEnv S
  | _, [] => []
  | k, v :: r => (k, .fl v) :: bindT (k + 1) r
theorem bind_toA : ∀ (vs : List (TL S)) (k : Nat), bindArgs k (vs.map TL.toA) = envA (bindT k vs)
  | [], _ => rfl
  | v :: r, k => by simp only [List.map_cons, bindArgs, bindT, bind_toA r]; rfl
/-- A function, computed. -/
theorem callC_le (hS : T.S.Ok T.E.P) {f : FuncId} {fn : Func} {c : Code} {vs : List (TL T.S)} {hs : THeap T.S} {o : OSpec T.S} (n : Nat) (hok : T.E.ok f = true) (hf : T.E.P.funcs[f]? = some fn) (hb : fn.body = some c) (hn0 : decide (vs.length ≤ fn.ntmps) = true)
    {p : Option o.Out} (h : te T ⟨f, fn, hs.length⟩ o n c [] ⟨bindT 0 vs, hs⟩ = p) : Le p (callC T f vs hs o) := by
  have hn := of_decide_eq_true hn0
  intro r hr
  obtain ⟨m, ex, s1, ex', s2, h1, h2, h3⟩ := (te_sound hS ⟨f, fn, hs.length⟩ o n).1 c [] ⟨bindT 0 vs, hs⟩ r (h.trans hr)
  cases h2
  refine callC_of hS ⟨m + 1, ?_⟩
  have he : (⟨bindArgs 0 (vs.map TL.toA), heapA hs⟩ : St) = (⟨bindT 0 vs, hs⟩ : TSt T.S).toS := by simp only [TSt.toS, bind_toA]
  simp only [call, hok, if_true, hf, hb, List.length_map, hn, he, h1]
  cases ex with
  | normal => simpa [fin, heapA] using h3
  | ret => simpa [fin, heapA] using h3
  | exit i => cases h3
end Go.Ab
