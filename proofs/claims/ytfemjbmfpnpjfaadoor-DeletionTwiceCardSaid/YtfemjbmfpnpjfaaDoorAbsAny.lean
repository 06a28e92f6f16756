/- A region whose order is drawn, walked in the one order. -/
import Derived.Test.YtfemjbmfpnpjfaaDoorAbsSwap
namespace Go.Ab

variable {E : Env0} {X : Cx} {s s1 : St} {a : Act} {w : World}

theorem runOp_unwanted {n : Nat} {f : FuncId} {r : Rule} {ops : Array Oper} {o : Oper} (h : Rel E X s a w) (hd : ∀ t, o.dst = some t → t < a.tmps.size) (hg : guardOf ops s o = some false)
    (hp : runOp E f r ops n o s = some s1) : Region.wanted o (yielded ops a.tmps) = false ∧ After E X w a.tmps.size s1 (a.put o.dst undef) w := by
  cases n with
  | zero => simp [runOp] at hp
  | succ n =>
    simp only [runOp, hg, Option.some.injEq] at hp
    subst hp
    refine ⟨guard_sound h hg, ?_⟩
    cases hdst : o.dst with
    | none => exact ⟨rfl, X, ⟨[], by simp⟩, Ext.refl X w, h⟩
    | some t =>
      obtain ⟨X', hmu, hE, hR⟩ := h.put (v := .skipped) (val := undef) (hd t hdst) rfl
      exact ⟨size_put a _ _, X', ⟨[], by simp [hmu]⟩, hE, hR⟩

theorem UU.refl (B : Nat → Nat → Prop) (op : Op) (w : World) : UU B op w w := ⟨fun _ => rfl, fun _ _ _ _ _ h => h⟩

theorem simple_of {op : Op} (h : (pureOp op || isLoad op) = true) : simpleOp op = true := by
  cases op with
  | store t x y => cases h
  | call c =>
    obtain ⟨callee, args, ts⟩ := c
    cases callee with
    | value g => cases h
    | _ => rfl
  | _ => rfl

/-- The step of a simple operation, and what it leaves alone. -/
theorem simple_UU {B : Nat → Nat → Prop} {o : Oper} (h : Rel E X s a w) (hs : simpleOp o.op = true) {fl : Flag} {q : Bool} {v : AV} {s2 : St} (hst : stepOp E fl q o.op s = some (v, s2)) {val : Value} {w1 : World}
    (hr : (execOp a.eval o).run E.P w = .ok (.value val) w1) : UU B o.op w w1 := by
  refine ⟨fun hc => ?_, fun hc => ?_⟩
  · cases hp : pureOp o.op with
    | true =>
      obtain ⟨val', hv⟩ := pure_run h o hst hp
      rw [hv w] at hr; cases hr; rfl
    | false =>
      rw [hp, Bool.false_or] at hc
      exact dry_load o hc _ w _ w1 hr
  · cases hp : isAlloc o.op with
    | true =>
      obtain ⟨_, h2⟩ := grow_alloc o hp a.eval (fun _ => rfl) w _ w1 hr
      intro b off u _ hc
      have hb : b < w.heap.size := World.block_lt_of_cell? w ⟨b, off, none⟩ hc
      rw [cell?_of_heap (h2 b hb)]; exact hc
    | false =>
      rw [hp, Bool.false_or] at hc
      exfalso
      revert hs hc
      cases o.op with
      | call c =>
        obtain ⟨callee, args, ts⟩ := c
        cases callee <;> simp [simpleOp, isCallV, isStoreOp]
      | _ => simp [isCallV, isStoreOp, simpleOp]

/-- May the operation come ahead of these, which stand before it in the order. -/
def frontOk (an : An) (f : Nat) (ops : Array Oper) (pre : List Oper) (k : Oper) : Bool :=
  match frontDst an f k with
  | some t => pre.all fun x => !(namesOf ops x).contains t && (opTmps k.op).all (fun u => !(namesOf ops x).contains u) && (noNew k.op || noNew x.op)
  | none => false
/-- What stands before 'k' in an order, and behind. -/
def splitAt' (k : Nat) : List Nat → Option (List Nat × List Nat)
  | [] => none
  | j :: r => if j = k then some ([], r) else match splitAt' k r with | some (p, q) => some (j :: p, q) | none => none
theorem splitAt'_eq {k : Nat} : ∀ {l p q : List Nat}, splitAt' k l = some (p, q) → l = p ++ k :: q
  | [], _, _, h => by cases h
  | j :: r, p, q, h => by
    simp only [splitAt'] at h
    split at h
    · rename_i hj; cases h; rw [hj]; rfl
    · split at h
      · rename_i p' q' h1
        cases h
        rw [splitAt'_eq h1]; rfl
      · cases h
/-- The destinations of what may come first, later, are not named now. -/
def laterOk (an : An) (f : Nat) (ops : Array Oper) (k : Nat) (l : List Nat) : Bool :=
  match ops[k]? with
  | some ok => l.all fun j => match (ops[j]?).bind (frontDst an f) with | some t => !(namesOf ops ok).contains t | none => true
  | none => false
/-- No other operation has a load's destination. -/
def soleDst (ops : Array Oper) (k : Nat) : Bool :=
  match ops[k]? with
  | some ok => !isLoad ok.op || (ok.dst.isSome && (List.range ops.size).all fun j => j == k || ((ops[j]?).bind (·.dst)) != ok.dst)
  | none => false
theorem stirs_of {op : Op} (h : (isAlloc op || isCallV op || isStoreOp op) = true) : stirs op = true := by
  cases op with
  | call c =>
    obtain ⟨callee, args, ts⟩ := c
    cases callee with
    | value g => rfl
    | builtin b => cases b <;> first | rfl | (simp [isAlloc, isCallV, isStoreOp] at h)
    | invoke r m => simp [isAlloc, isCallV, isStoreOp] at h
  | _ => first | rfl | (simp [isAlloc, isCallV, isStoreOp] at h)
/-- Where no look is needed, what changes memory is behind. -/
theorem calm_of {ops : Array Oper} {k : Nat} {o : Oper} (ho : ops[k]? = some o) (hl : isLoad o.op = true) (hs : soleDst ops k = true) (hn : needsLook ops o = false) {listed : Array Bool} (hr : k ∈ Region.ready .any ops listed)
    {j : Nat} {oj : Oper} (hj : ops[j]? = some oj) (hun : listed.getD j true = false) (hno : ∀ e ∈ oj.after, Region.binds .any e = true → e.on ≠ k) : stirs oj.op = false := by
  cases hst : stirs oj.op with
  | false => rfl
  | true =>
    exfalso
    have hjl : j < ops.size := (Array.getElem?_eq_some_iff.1 hj).1
    have h1 : ¬ _ := fun e => by
      have := List.any_eq_false.1 hn j (by simpa using hjl)
      exact this e
    apply h1
    simp only [hj, hst, Bool.true_and, Bool.and_eq_true, Bool.not_eq_true']
    constructor
    · rw [Array.any_eq_false]
      intro i hi
      simp only [Bool.and_eq_true, beq_iff_eq, not_and]
      intro hb hd
      have hne := hno _ (Array.getElem_mem hi) hb
      simp only [soleDst, ho, hl, Bool.not_true, Bool.false_or, Bool.and_eq_true, List.all_eq_true, List.mem_range, Bool.or_eq_true, beq_iff_eq, bne_iff_ne] at hs
      obtain ⟨hs0, hs⟩ := hs
      cases hop : ops[(oj.after[i]).on]? with
      | none =>
        rw [hop] at hd
        simp only [Option.bind_none] at hd
        rw [← hd] at hs0; cases hs0
      | some q =>
        have hlt : (oj.after[i]).on < ops.size := (Array.getElem?_eq_some_iff.1 hop).1
        rcases hs _ hlt with e | e
        · exact hne e
        · rw [hop] at hd e
          exact e hd
    · rw [Array.any_eq_false]
      intro i hi
      simp only [Bool.and_eq_true, beq_iff_eq, not_and]
      intro hb hd
      obtain ⟨_, o', ho', hall⟩ := mem_ready.1 hr
      rw [ho] at ho'; cases ho'
      have := hall _ (Array.getElem_mem hi) hb
      rw [hd, Array.getD_eq_getD_getElem?] at this
      rw [Array.getD_eq_getD_getElem?] at hun
      cases hx : listed[j]? with
      | none => rw [hx] at hun; cases hun
      | some b => rw [hx] at hun this; simp only [Option.getD_some] at hun this; rw [hun] at this; cases this

/-- One order stands for all: its head may come first; or each that may come next may come ahead of those before it. -/
def orderFrom (an : An) (f : Nat) (mode : Nat) (ops : Array Oper) : Nat → List Nat → Array Bool → Bool
  | 0, l, listed => (Region.ready .any ops listed).isEmpty && l.isEmpty
  | n + 1, l, listed =>
    (match l with
      | k :: l' => (Region.ready .any ops listed).contains k && othersOk mode ops listed k && soleDst ops k && laterOk an f ops k l' && orderFrom an f mode ops n l' (listed.setIfInBounds k true)
      | [] => false) ||
    (!(Region.ready .any ops listed).isEmpty && (Region.ready .any ops listed).all fun k => match splitAt' k l, ops[k]? with
      | some (p, q), some ok => (p.isEmpty || frontOk an f ops (ordered ops p) ok) && laterOk an f ops k (p ++ q) && orderFrom an f mode ops n (p ++ q) (listed.setIfInBounds k true)
      | _, _ => false)
/-- The check of a region that draws. -/
def drawCheck (an : An) (f id : Nat) (ops : Array Oper) : Bool :=
  Region.noSelect ops && match an.order f id with
    | [l] => orderFrom an f (an.mode f id) ops ops.size l (Array.replicate ops.size false)
    | _ => false

theorem ordered_append (ops : Array Oper) : ∀ (p q : List Nat), ordered ops (p ++ q) = ordered ops p ++ ordered ops q
  | [], _ => rfl
  | j :: p, q => by
    simp only [List.cons_append, ordered]
    cases ops[j]? with
    | none => exact ordered_append ops p q
    | some o => simp only [ordered_append ops p q, List.cons_append]
theorem Rel.same {s' : St} (h : Rel E X s' a w) (hs : Same s s') : Rel E X s a w := by
  have hh : s'.heap = s.heap := by rw [hs.heap]; simp
  refine h.less (s' := s) (by rw [hh]) (fun t => .inl (hs.out t (by simp)).symm) (fun o j => .inl (by rw [hh])) (fun o cs hcs => ⟨cs, by rw [← hh]; exact hcs, rfl⟩)

theorem agree_spec : ∀ {l : List (Option St)} {s : St}, agree l = some s → ∀ x ∈ l, x = some s
  | [], s, h => by simp [agree] at h
  | [x], s, h => by simp only [agree] at h; simp [h]
  | x :: y :: r, s, h => by
    simp only [agree] at h
    cases x with
    | none => simp at h
    | some s1 =>
      cases hy : agree (y :: r) with
      | none => simp [hy] at h
      | some s2 =>
        simp only [hy] at h
        split at h
        · rename_i e
          subst e
          simp only [Option.some.injEq] at h
          subst h
          intro z hz
          rcases List.mem_cons.1 hz with rfl | hz
          · rfl
          · exact agree_spec hy z hz
        · cases h

/-- The destinations of what may come first are unused. -/
def FreshL (E : Env0) (f : Nat) (ops : Array Oper) (s : St) (l : List Nat) : Prop := ∀ j ∈ l, ∀ o, ops[j]? = some o → ∀ t, frontDst E.an f o = some t → get s.env t = .undef
theorem FreshL.next {f : Nat} {r : Rule} {n : Nat} {ops : Array Oper} {s s2 : St} {l l' : List Nat} {k : Nat} {o : Oper} (h : FreshL E f ops s l) (ho : ops[k]? = some o) (hr : runOp E f r ops n o s = some s2) (hl : laterOk E.an f ops k l' = true) (hs : ∀ j ∈ l', j ∈ l) :
    FreshL E f ops s2 l' := by
  intro j hj oj hoj t ht
  have h1 := h j (hs j hj) oj hoj t ht
  simp only [laterOk, ho, List.all_eq_true] at hl
  have h2 := hl j hj
  simp only [hoj, Option.bind_some, ht, Bool.not_eq_true'] at h2
  have h3 : t ∉ namesOf ops o := by simpa using h2
  rw [(stays_runOp hr).calm h3 (by rw [h1]; rfl), h1]

theorem guard_of {ops : Array Oper} {k : Nat} {o : Oper} (ho : ops[k]? = some o) (hl : isLoad o.op = true) {oj : Oper} (hno : ∀ e ∈ oj.after, Region.binds .any e = true → e.on ≠ k) : guardNeeded ops oj = true := by
  simp only [guardNeeded, List.any_eq_true, List.mem_range]
  refine ⟨k, (Array.getElem?_eq_some_iff.1 ho).1, ?_⟩
  simp only [ho]
  have h2 : (oj.after.any fun e => Region.binds .any e && e.on == k) = false := by
    rw [Array.any_eq_false]
    intro i hi
    simp only [Bool.and_eq_true, beq_iff_eq, not_and]
    intro hb hd
    exact hno _ (Array.getElem_mem hi) hb hd
  rw [h2]
  cases hop : o.op with
  | load t x => rfl
  | _ => rw [hop] at hl; cases hl

theorem order_sound {n : Nat} (hcall : ∀ m, m < n → CallAOk E m) (hb : BodyOk E) {f : FuncId} {r : Rule} (hdr : r.draws = true) {ops : Array Oper} (hsel : Region.noSelect ops = true) {K : Act → World → Prop} :
    ∀ (N : Nat) (l : List Nat) (B : Nat → Nat → Nat → Prop) (listed : Array Bool) (X : Cx) (s s1 : St) (a : Act) (w : World), orderFrom E.an f r.mode ops N l listed = true → runOps E f r ops n (ordered ops l) s = some s1 → FreshL E f ops s l → Rel E X s a w →
      (∀ o ∈ ops, ∀ t, o.dst = some t → t < a.tmps.size) → (∀ j b o, B j b o → 1 ≤ r.mode ∧ Safe X w r.mode b o ∧ ∀ oj, ops[j]? = some oj → guardNeeded ops oj = true) → (∀ a' w', After E X w a.tmps.size s1 a' w' → K a' w') →
      wpAnyU E.P .any ops (fun e a' w' => e = .normal ∧ K a' w') N B listed a w
  | 0, l, B, listed, X, s, s1, a, w, hord, hp, hfr, h, hd, hB, hK => by
    simp only [orderFrom, Bool.and_eq_true] at hord
    have hl : l = [] := by simpa using hord.2
    subst hl
    simp only [ordered, runOps_nil, Option.some.injEq] at hp
    subst hp
    exact ⟨by simpa using hord.1, rfl, hK _ _ ⟨rfl, X, ⟨[], by simp⟩, Ext.refl X w, h⟩⟩
  | N + 1, l, B, listed, X, s, s1, a, w, hord, hp, hfr, h, hd, hB, hK => by
    have prep : ∀ k p q, l = p ++ k :: q → k ∈ Region.ready .any ops listed → (∀ o, ops[k]? = some o → (p.isEmpty || frontOk E.an f ops (ordered ops p) o) = true) →
        ∃ o s2 sf, ops[k]? = some o ∧ runOp E f r ops n o s = some s2 ∧ runOps E f r ops n (ordered ops (p ++ q)) s2 = some sf ∧ Same s1 sf := by
      intro k p q hl hmem hfo
      obtain ⟨_, o, ho, _⟩ := mem_ready.1 hmem
      have hord2 : ordered ops l = ordered ops p ++ o :: ordered ops q := by rw [hl, ordered_append]; simp only [ordered, ho]
      rw [hord2] at hp
      have hex : ∃ sf, runOps E f r ops n (o :: (ordered ops p ++ ordered ops q)) s = some sf ∧ Same s1 sf := by
        have hfo := hfo o ho
        simp only [Bool.or_eq_true] at hfo
        rcases hfo with hpe | hfo
        · have : p = [] := by simpa using hpe
          subst this
          exact ⟨s1, hp, Same.refl _⟩
        · unfold frontOk at hfo
          split at hfo
          · rename_i t ht
            simp only [List.all_eq_true, Bool.and_eq_true, Bool.or_eq_true, Bool.not_eq_true'] at hfo
            refine swap hdr ht (hfr k (by rw [hl]; simp) o ho t ht) (fun x hx => ?_) (fun x hx u hu => ?_) (fun hn x hx => ?_) hp
            · have := (hfo x hx).1.1; simpa using this
            · have := (hfo x hx).1.2 u hu; simpa using this
            · rcases (hfo x hx).2 with e | e
              · rw [hn] at e; cases e
              · exact e
          · cases hfo
      obtain ⟨sf, h1, h2⟩ := hex
      rw [runOps_cons] at h1
      cases hro : runOp E f r ops n o s with
      | none => rw [hro] at h1; cases h1
      | some s2 =>
        rw [hro] at h1
        exact ⟨o, s2, sf, ho, hro, by rw [ordered_append]; exact h1, h2⟩
    have contk : ∀ k l' o s2 sf, ops[k]? = some o → runOp E f r ops n o s = some s2 → orderFrom E.an f r.mode ops N l' (listed.setIfInBounds k true) = true → laterOk E.an f ops k l' = true → (∀ j ∈ l', j ∈ l) → runOps E f r ops n (ordered ops l') s2 = some sf → Same s1 sf →
        ∀ (a2 : Act) (w2 : World) (B2 : Nat → Nat → Nat → Prop), After E X w a.tmps.size s2 a2 w2 → (∀ j b o, B2 j b o → 1 ≤ r.mode ∧ Safe X w r.mode b o ∧ ∀ oj, ops[j]? = some oj → guardNeeded ops oj = true) →
        wpAnyU E.P .any ops (fun e a' w' => e = .normal ∧ K a' w') N B2 (listed.setIfInBounds k true) a2 w2 := by
      intro k l' o s2 sf ho hro hrest hlat hsub hps hsame a2 w2 B2 haft hB2
      obtain ⟨hsz, X', hm', hE, hR⟩ := haft
      refine order_sound hcall hb hdr hsel N l' B2 _ X' s2 sf a2 w2 hrest hps (hfr.next ho hro hlat hsub) hR (fun o' ho' t ht => by rw [hsz]; exact hd o' ho' t ht) (fun j b o hb2 => ⟨(hB2 j b o hb2).1, (hB2 j b o hb2).2.1.ext hE hm', (hB2 j b o hb2).2.2⟩) (fun a' w' h2 => hK _ _ ?_)
      rw [hsz] at h2
      obtain ⟨g1, X2, g2, g3, g4⟩ := After.trans h.gdom hm' hE h2
      exact ⟨g1, X2, g2, g3, g4.same hsame⟩
    simp only [orderFrom, Bool.or_eq_true, Bool.and_eq_true] at hord
    rcases hord with hord | ⟨hnn, hall⟩
    · -- one comes first
      have hsplit : ∃ k l', l = k :: l' ∧ k ∈ Region.ready .any ops listed ∧ othersOk r.mode ops listed k = true ∧ soleDst ops k = true ∧ laterOk E.an f ops k l' = true ∧ orderFrom E.an f r.mode ops N l' (listed.setIfInBounds k true) = true := by
        split at hord
        · rename_i k l'
          simp only [Bool.and_eq_true] at hord
          exact ⟨k, l', rfl, by simpa using hord.1.1.1.1, hord.1.1.1.2, hord.1.1.2, hord.1.2, hord.2⟩
        · cases hord
      obtain ⟨k, l', hl, hmem, hk, hsole, hlat, hrest⟩ := hsplit
      obtain ⟨o, s2, sf, ho, hro, hps, hsame⟩ := prep k [] l' hl hmem (fun _ _ => rfl)
      rw [List.nil_append] at hps
      have cont := contk k l' o s2 sf ho hro hrest hlat (fun j hj => by rw [hl]; exact List.mem_cons_of_mem _ hj) hps hsame
      have hod : ∀ t, o.dst = some t → t < a.tmps.size := fun t ht => hd o (Array.mem_of_getElem? ho) t ht
      have hcl := othersOk_class ho hk
      have hsim : simpleOp o.op = true := simple_of (by simpa using hcl)
      have free : ∀ (R : World → World → Prop) (B' : Nat → Nat → Nat → Prop), (∀ j oj, ops[j]? = some oj → (∀ e ∈ oj.after, Region.binds .any e = true → e.on ≠ k) → mayMix r.mode o.op oj.op = true → ∀ w w', UU (B' j) oj.op w w' → R w w') → ∀ j oj, ops[j]? = some oj → j ≠ k → listed.getD j true = false → (∀ e ∈ oj.after, Region.binds .any e = true → e.on ≠ k) → o.apart ops oj = true ∧ ∀ w w', UU (B' j) oj.op w w' → R w w' := by
        intro R B' hR j oj hj hne hun hno
        obtain ⟨h1, h2⟩ := othersOk_spec ho hk j oj hj hne hun hno
        exact ⟨h1, hR j oj hj hno h2⟩
      have selspec := Region.noSelect_spec hsel
      have top : ∀ val, Region.wanted o (yielded ops a.tmps) = true ∧ (∀ w', (execOp a.eval o).run E.P w' = .ok (.value val) w') ∨ (Region.wanted o (yielded ops a.tmps) = false ∧ val = undef) →
          (∀ op, mayMix r.mode o.op op = true → True) → After E X w a.tmps.size s2 (a.put o.dst val) w → wpAnyU E.P .any ops (fun e a' w' => e = .normal ∧ K a' w') (N + 1) B listed a w := by
        intro val hv _ haft
        refine wpAnyU_first (R := fun _ _ => True) (fun _ => trivial) (fun _ _ _ _ _ => trivial) ho selspec (fun c a w hc => by cases hc.1) (B' := B) (fun _ _ _ hb => hb) (fun w => UU.refl (B k) _ w) N listed a w (free _ B (fun _ _ _ _ _ _ _ _ => trivial)) hmem ?_ (cont _ _ B haft hB)
        rcases hv with ⟨h1, h2⟩ | ⟨h1, h2⟩
        · exact .inl ⟨h1, fun w' _ => h2 w'⟩
        · exact .inr ⟨h1, h2⟩
      rcases runOp_simple h hod hsim hro with ⟨hw, haft⟩ | ⟨hw, hreads, fl, q, v, s3, hst, val, w1, hr, haft⟩
      · exact top undef (.inr ⟨hw, rfl⟩) (fun _ _ => trivial) haft
      · cases hpu : pureOp o.op with
        | true =>
          obtain ⟨val', hv⟩ := pure_run h o hst hpu
          have hrw := hv w
          rw [hr] at hrw
          cases hrw
          exact top val (.inl ⟨hw, hv⟩) (fun _ _ => trivial) haft
        | false =>
          have hlo : isLoad o.op = true := by rcases hcl with e | e; rw [hpu] at e; cases e; exact e
          have hw1 : w1 = w := dry_load o hlo _ w _ w1 hr
          subst hw1
          by_cases hm1 : 1 ≤ r.mode ∧ needsLook ops o = true
          · obtain ⟨hm0, hnl⟩ := hm1
            cases hop : o.op with
            | load t x =>
              have hx : (∃ ob off, ev E s x = .ptr ob off ∧ above r.mode ob = true) ∨ ∃ cs, ev E s x = .view cs := by
                rw [hop] at hreads
                simp only [readsOk, lookRule, hdr, hnl, Bool.and_self, Bool.not_true, Bool.false_or, Bool.or_eq_true, beq_iff_eq] at hreads
                rcases hreads with e | e
                · omega
                · generalize ev E s x = c at e
                  cases c with
                  | ptr ob off => exact .inl ⟨ob, off, rfl, e⟩
                  | view cs => exact .inr ⟨cs, rfl⟩
                  | _ => cases e
              have hst' : loadOp E fl q t (ev E s x) s = some (v, s3) := by rw [hop] at hst; exact hst
              obtain ⟨val', C, hC, hrun⟩ := load_look h o hop hst' hx
              have hrw := hrun w1 (fun _ _ _ _ hc => hc)
              rw [hr] at hrw
              cases hrw
              let B' : Nat → Nat → Nat → Prop := fun j b o => B j b o ∨ (C b o ∧ ∀ oj, ops[j]? = some oj → ∀ e ∈ oj.after, Region.binds .any e = true → e.on ≠ k)
              have hBC : ∀ j b o, B' j b o → 1 ≤ r.mode ∧ Safe X w1 r.mode b o ∧ ∀ oj, ops[j]? = some oj → guardNeeded ops oj = true := fun j b o' e => e.elim (hB j b o') (fun e => ⟨hm0, hC b o' e.1, fun oj hoj => guard_of ho hlo (e.2 oj hoj)⟩)
              refine wpAnyU_first (R := Pres C) (fun _ _ _ _ _ hc => hc) (fun _ _ _ h1 h2 b o u hb hc => h2 b o u hb (h1 b o u hb hc)) ho selspec (fun c a w hc => by cases hc.1) (B' := B') (fun _ _ _ hb => .inl hb) (fun w => UU.refl (B k) _ w) N listed a w1
                (free _ _ (fun j oj hj hno hmix w w' hu => ?_)) hmem (.inl ⟨hw, hrun⟩) (cont _ _ _ haft hBC)
              have hmix' : ((pureOp oj.op || isLoad oj.op) = true) ∨ ((isAlloc oj.op || isCallV oj.op || isStoreOp oj.op) = true) := by
                simp only [mayMix, hpu, Bool.false_or, Bool.and_eq_true, Bool.or_eq_true] at hmix
                simp only [Bool.or_eq_true]
                rcases hmix.2 with (e | e) | e
                · exact .inl (.inl e)
                · exact .inl (.inr e)
                · exact .inr e.2
              rcases hmix' with e | e
              · rw [hu.1 e]; exact fun _ _ _ _ hc => hc
              · exact fun b o u hb hc => hu.2 e b o u (.inr ⟨hb, fun oj' hoj' => by rw [hj] at hoj'; cases hoj'; exact hno⟩) hc
            | _ => rw [hop] at hlo; cases hlo
          · refine wpAnyU_first (R := fun w w' => w' = w) (fun _ => rfl) (fun _ _ _ h1 h2 => by rw [h2, h1]) ho selspec (fun c a w hc => by cases hc.1) (B' := B) (fun _ _ _ hb => hb) (fun w => UU.refl (B k) _ w) N listed a w1
              (fun j oj hj hne hun hno => ⟨(othersOk_spec ho hk j oj hj hne hun hno).1, fun w w' hu => ?_⟩) hmem (.inl ⟨hw, fun w' e => by rw [e]; exact hr⟩) (cont _ _ B haft hB)
            have hmix := (othersOk_spec ho hk j oj hj hne hun hno).2
            have : (pureOp oj.op || isLoad oj.op) = true := by
              simp only [mayMix, hpu, Bool.false_or, Bool.and_eq_true, Bool.or_eq_true, decide_eq_true_eq] at hmix
              simp only [Bool.or_eq_true]
              rcases hmix.2 with (e | e) | e
              · exact .inl e
              · exact .inr e
              · exfalso
                have hst : stirs oj.op = true := stirs_of (by simpa only [Bool.or_eq_true] using e.2)
                by_cases hnl : needsLook ops o = true
                · exact hm1 ⟨e.1, hnl⟩
                · rw [calm_of ho hlo hsole (by simpa using hnl) hmem hj hun hno] at hst; cases hst
            exact hu.1 this
    · -- each that may come next may come ahead of those before it
      refine ⟨fun e => (by rw [e] at hnn; simp at hnn), fun i hi => ?_⟩
      have hi1 := List.all_eq_true.1 hall i hi
      have hi2 : ∃ p q ok, splitAt' i l = some (p, q) ∧ ops[i]? = some ok ∧ (p.isEmpty || frontOk E.an f ops (ordered ops p) ok) = true ∧ laterOk E.an f ops i (p ++ q) = true ∧ orderFrom E.an f r.mode ops N (p ++ q) (listed.setIfInBounds i true) = true := by
        split at hi1
        · rename_i p q ok hs hok
          simp only [Bool.and_eq_true] at hi1
          exact ⟨p, q, ok, hs, hok, hi1.1.1, hi1.1.2, hi1.2⟩
        · cases hi1
      obtain ⟨p, q, ok, hs0, hok, hfo, hlat, hrest⟩ := hi2
      have hl := splitAt'_eq hs0
      obtain ⟨o, s2, sf, ho, hro, hps, hsame⟩ := prep i p q hl hi (fun o' ho' => by rw [hok] at ho'; cases ho'; exact hfo)
      have cont := contk i (p ++ q) o s2 sf ho hro hrest hlat (fun j hj => by
        rw [hl]
        rcases List.mem_append.1 hj with hj | hj
        · exact List.mem_append_left _ hj
        · exact List.mem_append_right _ (List.mem_cons_of_mem _ hj)) hps hsame
      have hod : ∀ t, o.dst = some t → t < a.tmps.size := fun t ht => hd o (Array.mem_of_getElem? ho) t ht
      have step : ∀ a2 w2, After E X w a.tmps.size s2 a2 w2 → UU (B i) o.op w w2 → (∀ o', ops[i]? = some o' → UU (B i) o'.op w w2) ∧ wpAnyU E.P .any ops (fun e a' w' => e = .normal ∧ K a' w') N B (listed.setIfInBounds i true) a2 w2 :=
        fun a2 w2 haft hu => ⟨fun o' ho' => by rw [ho] at ho'; cases ho'; exact hu, cont a2 w2 B haft hB⟩
      cases hs : simpleOp o.op with
      | true =>
        rcases runOp_simple h hod hs hro with ⟨hw, haft⟩ | ⟨hw, _, fl, q, v, s3, hst, val, w1, hr, haft⟩
        · exact wpOp_unwanted ho hw (step _ _ haft (UU.refl (B i) _ w))
        · exact wpOp_value ho hw hr (step _ _ haft (simple_UU h hs hst hr))
      | false =>
        cases hg : guardOf ops s o with
        | none => cases n <;> simp [runOp, hg] at hro
        | some b =>
          cases b with
          | false =>
            obtain ⟨hw, haft⟩ := runOp_unwanted h hod hg hro
            exact wpOp_unwanted ho hw (step _ _ haft (UU.refl (B i) _ w))
          | true =>
            refine runOp_sound (fun m' hm' => hcall m' (by omega)) hb ho h hod hro _ _ (fun a' w' haft hq => step _ _ haft ⟨fun hc => ?_, fun hc => ?_⟩)
            · rw [simple_of hc] at hs; cases hs
            · have hcv : isCallV o.op = true ∨ isStoreOp o.op = true := by
                revert hs hc
                cases o.op with
                | call c =>
                  obtain ⟨callee, args, ts⟩ := c
                  cases callee <;> simp [simpleOp, isCallV, isStoreOp]
                | store t x y => simp [isAlloc, isCallV, isStoreOp]
                | _ => simp [simpleOp]
              intro b off u hbb hc
              obtain ⟨hmode, hsafe, hgd⟩ := hB i b off hbb
              rcases hsafe with ⟨h1, _⟩ | ⟨o', h1, h2⟩
              · obtain ⟨_, X', _, hE, _⟩ := haft
                exact (hE.point hc h1).1
              · rw [cell?_of_heap (hq hg hdr (hcv.imp id fun e => ⟨e, hmode, hgd o ho⟩) o' b h2 h1)]; exact hc

/-- A region that draws its order. -/
theorem draw_sound (hm : E.P.follows .mixedOrders = true) (hb : BodyOk E) : DrawOk E (drawCheck E.an) := by
  intro n hcall f id ops s s1 hck hfb hp X a w h hd K hK
  simp only [drawCheck, Bool.and_eq_true] at hck
  obtain ⟨hsel, hord⟩ := hck
  split at hord
  · rename_i l hl
    rw [hl] at hp
    simp only [List.map_cons, List.map_nil, agree] at hp
    refine wp_region_any hm (wpAny_of_U _ (fun _ _ _ => False) _ _ _ ?_)
    exact order_sound (K := K) hcall hb (r := { draws := true, mode := E.an.mode f id }) rfl hsel ops.size l (fun _ _ _ => False) (Array.replicate ops.size false) X s s1 a w.drew hord hp (fun j _ o ho t ht => by
        simp only [freshB, List.all_eq_true] at hfb
        have := hfb o (by simpa using Array.mem_of_getElem? ho)
        rw [ht] at this
        simp only at this
        split at this
        · assumption
        · cases this) h.drew hd (fun _ _ _ e => e.elim)
      (fun a' w' haft => hK a' w' (After.trans h.gdom ⟨[], by simp⟩ (Ext.drew X w) haft))
  · cases hord

theorem sound (hm : E.P.follows .mixedOrders = true) (hb : FuncsOk E (drawCheck E.an)) (n : Nat) : CallOk E n :=
  (all_sound hb (draw_sound hm fun h hk => let ⟨fn, c, g1, g2, g3, _⟩ := hb h hk; ⟨fn, c, g1, g2, g3⟩) n).2

end Go.Ab
