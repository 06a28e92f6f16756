/- More fuel, the same answer. -/
import Derived.Test.YtfemjbmfpnpjfaaDoorAbsTop
namespace Go.Ab

variable {E : Env0}

theorem agree_all : ∀ {l : List (Option St)} {s : St}, l ≠ [] → (∀ x ∈ l, x = some s) → agree l = some s
  | [], s, hn, _ => absurd rfl hn
  | [x], s, _, h => by simp only [agree]; exact h x (by simp)
  | x :: y :: r, s, _, h => by
    have h1 := h x (by simp)
    have h2 := agree_all (l := y :: r) (s := s) (by simp) (fun z hz => h z (by simp [List.mem_cons.1 hz]))
    simp only [agree, h1, h2, if_true]

theorem agree_ne {l : List (Option St)} {s : St} (h : agree l = some s) : l ≠ [] := by
  rintro rfl; simp [agree] at h

theorem exec_seq (f : FuncId) (n : Nat) (a b : Code) (s : St) : exec E f (n + 1) (.seq a b) s = match exec E f n a s with | some (.normal, s1) => exec E f n b s1 | r => r := rfl
theorem exec_cond (f : FuncId) (n : Nat) (x : Operand) (a b : Code) (s : St) : exec E f (n + 1) (.cond x a b) s = match ev E s x with | .d (.v (.bool t)) => exec E f n (if t then a else b) s | _ => none := rfl
theorem exec_block (f : FuncId) (n id : Nat) (b : Code) (s : St) : exec E f (n + 1) (.block id b) s = match exec E f n b s with | some (.exit id', s1) => if id' = id then some (.normal, trim s.heap.length s1) else some (.exit id', s1) | some (.normal, s1) => some (.normal, trim s.heap.length s1) | r => r := rfl
theorem exec_loop (f : FuncId) (n : Nat) (b : Code) (s : St) : exec E f (n + 1) (.loop b) s = match exec E f n b s with | some (.normal, s1) => exec E f n (.loop b) (trim s.heap.length s1) | r => r := rfl

structure Mono (E : Env0) (n : Nat) : Prop where
  exec : ∀ f c s r, exec E f n c s = some r → exec E f (n + 1) c s = some r
  ops : ∀ f r ops l s s1, runOps E f r ops n l s = some s1 → runOps E f r ops (n + 1) l s = some s1
  op : ∀ f r ops o s s1, runOp E f r ops n o s = some s1 → runOp E f r ops (n + 1) o s = some s1
  callA : ∀ r h vs dst s s1, callA E r n h vs dst s = some s1 → callA E r (n + 1) h vs dst s = some s1
  call : ∀ h vs hp q, call E n h vs hp = some q → call E (n + 1) h vs hp = some q

theorem ops_of_op {n m : Nat} {f : FuncId} {r : Rule} {ops : Array Oper} (hop : ∀ o s s1, runOp E f r ops n o s = some s1 → runOp E f r ops m o s = some s1) : ∀ (l : List Oper) (s s1 : St), runOps E f r ops n l s = some s1 → runOps E f r ops m l s = some s1
  | [], _, _, h => h
  | o :: l, s, s1, h => by
    rw [runOps_cons] at h ⊢
    cases hr : runOp E f r ops n o s with
    | none => simp [hr] at h
    | some s2 => rw [hop _ _ _ hr]; rw [hr] at h; exact ops_of_op hop l s2 s1 h
theorem mono : ∀ n, Mono E n
  | 0 => by
    refine ⟨fun f c s r h => by simp [exec] at h, fun f r ops l s s1 h => ?_, fun f r ops o s s1 h => by simp [runOp] at h, fun r h vs dst s s1 hh => by simp [callA] at hh, fun h vs hp q hh => by simp [call] at hh⟩
    cases l with
    | nil => exact h
    | cons o l => simp [runOps_cons, runOp] at h
  | n + 1 => by
    have ih := mono n
    have hopAll : ∀ f r ops o s s1, runOp E f r ops (n + 1) o s = some s1 → runOp E f r ops (n + 1 + 1) o s = some s1 := by
      intro f r ops o s s1 h
      simp only [runOp] at h ⊢
      cases hg : guardOf ops s o with
      | none => simp [hg] at h
      | some b =>
        cases b with
        | false => simp only [hg] at h ⊢; exact h
        | true =>
          simp only [hg] at h ⊢
          split at h
          · exact h
          · split at h
            · exact ih.callA _ _ _ _ _ _ h
            · cases h
          · exact h
    refine ⟨fun f c s r h => ?_, fun f r ops l s s1 h => ops_of_op (hopAll f r ops) l s s1 h, hopAll, fun r h vs dst s s1 hh => ?_, fun h vs hp q hh => ?_⟩
    · cases c with
      | region id ops draw =>
        rw [exec_region] at h ⊢
        cases draw with
        | true =>
          simp only [if_true] at h ⊢
          have hfr : freshB E.an f ops s = true := by
            cases hfb : freshB E.an f ops s with
            | true => rfl
            | false => simp [hfb] at h
          simp only [hfr, Bool.true_eq_false, if_false] at h ⊢
          cases hr : agree ((E.an.order f id).map fun l => runOps E f { draws := true, mode := E.an.mode f id } ops n (ordered ops l) s) with
          | none => simp [hr] at h
          | some s1 =>
            have hs := agree_spec hr
            have h2 : agree ((E.an.order f id).map fun l => runOps E f { draws := true, mode := E.an.mode f id } ops (n + 1) (ordered ops l) s) = some s1 :=
              agree_all (by have := agree_ne hr; simpa using this) (fun x hx => by
                obtain ⟨l, hl, rfl⟩ := List.mem_map.1 hx
                exact ih.ops _ _ _ _ _ _ (hs _ (List.mem_map.2 ⟨l, hl, rfl⟩)))
            rw [h2]
            rw [hr] at h
            exact h
        | false =>
          simp only [Bool.false_eq_true, if_false] at h ⊢
          cases hr : runOps E f { draws := false, mode := E.an.mode f id } ops n ops.toList s with
          | none => simp [hr] at h
          | some s1 => rw [ih.ops _ _ _ _ _ _ hr]; rw [hr] at h; exact h
      | seq a b =>
        rw [exec_seq] at h ⊢
        cases hr : exec E f n a s with
        | none => simp [hr] at h
        | some q =>
          obtain ⟨e, s1⟩ := q
          rw [ih.exec _ _ _ _ hr]
          rw [hr] at h
          cases e with
          | normal => exact ih.exec _ _ _ _ h
          | exit id => exact h
          | ret => exact h
      | cond x a b =>
        rw [exec_cond] at h ⊢
        generalize ev E s x = c at h ⊢
        cases c with
        | d y => cases y with
          | v u => cases u with
            | bool t => exact ih.exec _ _ _ _ h
            | _ => exact h
          | _ => exact h
        | _ => exact h
      | block id b =>
        rw [exec_block] at h ⊢
        cases hr : exec E f n b s with
        | none => simp [hr] at h
        | some q => rw [ih.exec _ _ _ _ hr]; rw [hr] at h; exact h
      | loop b =>
        rw [exec_loop] at h ⊢
        cases hr : exec E f n b s with
        | none => simp [hr] at h
        | some q =>
          obtain ⟨e, s1⟩ := q
          rw [ih.exec _ _ _ _ hr]
          rw [hr] at h
          cases e with
          | normal => exact ih.exec _ _ _ _ h
          | exit id => exact h
          | ret => exact h
      | _ => exact h
    · obtain ⟨objs, hs, v, h', h1, h2, h3, h4, h5, rfl⟩ := callA_spec hh
      simp only [Ab.callA, h1]
      have h6 : (!r.draws || objs.all (fun o => !above r.mode o)) = true := by
        cases hd : r.draws with
        | false => rfl
        | true => simp only [Bool.not_true, Bool.false_or, List.all_eq_true, decide_eq_true_eq]; exact fun o ho => by rw [h2 hd o ho]; rfl
      have h7 : (r.draws && decide (objs.length < h'.length)) = false := by
        cases hd : r.draws with
        | false => rfl
        | true => simp only [Bool.true_and, decide_eq_false_iff_not]; have := h5 hd; omega
      simp only [h6, if_true, h3, ih.call _ _ _ _ h4, h7, Bool.false_eq_true, if_false]
    · simp only [Ab.call] at hh ⊢
      split at hh
      · rename_i hok
        simp only [hok, if_true]
        cases hf : E.P.funcs[h]? with
        | none => simp [hf] at hh
        | some fn =>
          cases hb : fn.body with
          | none => simp [hf, hb] at hh
          | some c =>
            simp only [hf, hb] at hh ⊢
            split at hh
            · rename_i hle
              simp only [hle, if_true]
              cases hr : exec E h n c { env := bindArgs 0 vs, heap := hp } with
              | none => simp [hr] at hh
              | some q => rw [ih.exec _ _ _ _ hr]; rw [hr] at hh; exact hh
            · cases hh
      · cases hh

theorem call_le {n m : Nat} {h : FuncId} {vs : List AV} {hp : Heap} {q : AV × Heap} (hc : call E n h vs hp = some q) (hle : n ≤ m) : call E m h vs hp = some q := by
  induction hle with
  | refl => exact hc
  | step _ ih => exact (mono _).call _ _ _ _ ih
theorem exec_le {n m : Nat} {f : FuncId} {c : Code} {s : St} {q : Ex × St} (hc : exec E f n c s = some q) (hle : n ≤ m) : exec E f m c s = some q := by
  induction hle with
  | refl => exact hc
  | step _ ih => exact (mono _).exec _ _ _ _ ih

end Go.Ab
