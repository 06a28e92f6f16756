/- A region whose order is drawn, walked in the one order. -/
import Derived.Test.YtfemjbmfpnpjfaaDoorAbsOrder
namespace Go.Ab

variable {E : Env0} {X : Cx} {s s1 : St} {a : Act} {w : World}

theorem runOp_unwanted {n : Nat} {f : FuncId} {r : Rule} {ops : Array Oper} {o : Oper} (h : Rel E X s a w) (hd : ∀ t, o.dst = some t → t < a.tmps.size) (hg : guardOf ops s o = some false)
    (hp : runOp E f r ops n o s = some s1) : Region.wanted o (yielded ops a.tmps) = false ∧ After E X w a.tmps.size s1 (a.put o.dst undef) w := by
  cases n with
  | zero => simp [runOp] at hp
  | succ n =>
    simp only [runOp, hg, Option.some.injEq] at hp
    subst hp
    refine ⟨guard_sound h hg, ?_⟩
    cases hdst : o.dst with
    | none => exact ⟨rfl, X, ⟨[], by simp⟩, Ext.refl X w, h⟩
    | some t =>
      obtain ⟨X', hmu, hE, hR⟩ := h.put (v := .skipped) (val := undef) (hd t hdst) rfl
      exact ⟨size_put a _ _, X', ⟨[], by simp [hmu]⟩, hE, hR⟩

theorem UU.refl (B : Nat → Nat → Prop) (op : Op) (w : World) : UU B op w w := ⟨fun _ => rfl, fun _ _ _ _ _ h => h⟩

theorem simple_of {op : Op} (h : (pureOp op || isLoad op) = true) : simpleOp op = true := by
  cases op with
  | store t x y => cases h
  | call c =>
    obtain ⟨callee, args, ts⟩ := c
    cases callee with
    | value g => cases h
    | _ => rfl
  | _ => rfl

/-- The step of a simple operation, and what it leaves alone. -/
theorem simple_UU {B : Nat → Nat → Prop} {o : Oper} (h : Rel E X s a w) (hs : simpleOp o.op = true) {fl : Flag} {q : Bool} {v : AV} {s2 : St} (hst : stepOp E fl q o.op s = some (v, s2)) {val : Value} {w1 : World}
    (hr : (execOp a.eval o).run E.P w = .ok (.value val) w1) : UU B o.op w w1 := by
  refine ⟨fun hc => ?_, fun hc => ?_⟩
  · cases hp : pureOp o.op with
    | true =>
      obtain ⟨val', hv⟩ := pure_run h o hst hp
      rw [hv w] at hr; cases hr; rfl
    | false =>
      rw [hp, Bool.false_or] at hc
      exact dry_load o hc _ w _ w1 hr
  · cases hp : isAlloc o.op with
    | true =>
      obtain ⟨_, h2⟩ := grow_alloc o hp a.eval w _ w1 hr
      intro b off u _ hc
      have hb : b < w.heap.size := World.block_lt_of_cell? w ⟨b, off, none⟩ hc
      rw [cell?_of_heap (h2 b hb)]; exact hc
    | false =>
      rw [hp, Bool.false_or] at hc
      exfalso
      revert hs hc
      cases o.op with
      | call c =>
        obtain ⟨callee, args, ts⟩ := c
        cases callee <;> simp [simpleOp, isCallV]
      | _ => simp [isCallV]

theorem orderFrom_nil (mode : Nat) (ops : Array Oper) : ∀ (N : Nat) (listed : Array Bool), orderFrom mode ops N [] listed = false
  | 0, listed => by simp [orderFrom]
  | N + 1, listed => by
    simp only [orderFrom, Bool.false_or]
    cases hr : Region.ready .any ops listed with
    | nil => rfl
    | cons k l =>
      simp only [tailsOf, List.all_cons, orderFrom_nil mode ops N, Bool.false_and, Bool.and_false]

theorem agree_spec : ∀ {l : List (Option St)} {s : St}, agree l = some s → ∀ x ∈ l, x = some s
  | [], s, h => by simp [agree] at h
  | [x], s, h => by simp only [agree] at h; simp [h]
  | x :: y :: r, s, h => by
    simp only [agree] at h
    cases x with
    | none => simp at h
    | some s1 =>
      cases hy : agree (y :: r) with
      | none => simp [hy] at h
      | some s2 =>
        simp only [hy] at h
        split at h
        · rename_i e
          subst e
          simp only [Option.some.injEq] at h
          subst h
          intro z hz
          rcases List.mem_cons.1 hz with rfl | hz
          · rfl
          · exact agree_spec hy z hz
        · cases h

theorem order_sound {n : Nat} (hcall : ∀ m, m < n → CallAOk E m) (hb : BodyOk E) {f : FuncId} {r : Rule} (hdr : r.draws = true) {ops : Array Oper} (hsel : Region.noSelect ops = true) {K : Act → World → Prop} :
    ∀ (N : Nat) (ls : List (List Nat)) (n' : Nat) (B : Nat → Nat → Prop) (listed : Array Bool) (X : Cx) (s s1 : St) (a : Act) (w : World), n' ≤ n → orderFrom r.mode ops N ls listed = true → (∀ l ∈ ls, runOps E f r ops n' (ordered ops l) s = some s1) → Rel E X s a w →
      (∀ o ∈ ops, ∀ t, o.dst = some t → t < a.tmps.size) → (∀ b o, B b o → Safe X w r.mode b o) → (∀ a' w', After E X w a.tmps.size s1 a' w' → K a' w') →
      wpAnyU E.P .any ops (fun e a' w' => e = .normal ∧ K a' w') N B listed a w
  | 0, ls, n', B, listed, X, s, s1, a, w, hn, hord, hp, h, hd, hB, hK => by
    simp only [orderFrom, Bool.and_eq_true] at hord
    have hp0 := hp [] (by simpa using hord.2)
    have hs : s = s1 := by cases n' <;> simpa [ordered, runOps] using hp0
    subst hs
    exact ⟨by simpa using hord.1, rfl, hK _ _ ⟨rfl, X, ⟨[], by simp⟩, Ext.refl X w, h⟩⟩
  | N + 1, ls, n', B, listed, X, s, s1, a, w, hn, hord, hp, h, hd, hB, hK => by
    have prep : ∀ k, k ∈ Region.ready .any ops listed → orderFrom r.mode ops N (tailsOf k ls) (listed.setIfInBounds k true) = true →
        ∃ o m s2, ops[k]? = some o ∧ n' = m + 1 ∧ runOp E f r ops m o s = some s2 ∧ ∀ l ∈ tailsOf k ls, runOps E f r ops m (ordered ops l) s2 = some s1 := by
      intro k hmem hrest
      obtain ⟨_, o, ho, _⟩ := mem_ready.1 hmem
      have hne : ∃ l0, l0 ∈ tailsOf k ls := by
        cases ht : tailsOf k ls with
        | nil => rw [ht, orderFrom_nil] at hrest; cases hrest
        | cons l0 r0 => exact ⟨l0, List.mem_cons_self⟩
      obtain ⟨l0, hl0⟩ := hne
      have hp0 := hp _ (tailsOf_mem hl0)
      simp only [ordered, ho] at hp0
      cases n' with
      | zero => simp [runOps] at hp0
      | succ m =>
        simp only [runOps] at hp0
        cases hro : runOp E f r ops m o s with
        | none => simp [hro] at hp0
        | some s2 =>
          refine ⟨o, m, s2, ho, rfl, hro, fun l hl => ?_⟩
          have hp1 := hp _ (tailsOf_mem hl)
          simp only [ordered, ho, runOps, hro] at hp1
          exact hp1
    have contk : ∀ k, orderFrom r.mode ops N (tailsOf k ls) (listed.setIfInBounds k true) = true → ∀ m s2, n' = m + 1 → (∀ l ∈ tailsOf k ls, runOps E f r ops m (ordered ops l) s2 = some s1) → ∀ (a2 : Act) (w2 : World) (B2 : Nat → Nat → Prop), After E X w a.tmps.size s2 a2 w2 → (∀ b o, B2 b o → Safe X w r.mode b o) →
        wpAnyU E.P .any ops (fun e a' w' => e = .normal ∧ K a' w') N B2 (listed.setIfInBounds k true) a2 w2 := by
      intro k hrest m s2 hm hps a2 w2 B2 haft hB2
      obtain ⟨hsz, X', hm', hE, hR⟩ := haft
      refine order_sound hcall hb hdr hsel N (tailsOf k ls) m B2 _ X' s2 s1 a2 w2 (by omega) hrest hps hR (fun o' ho' t ht => by rw [hsz]; exact hd o' ho' t ht) (fun b o hb2 => (hB2 b o hb2).ext hE hm') (fun a' w' h2 => hK _ _ ?_)
      rw [hsz] at h2
      exact After.trans h.gdom hm' hE h2
    simp only [orderFrom, Bool.or_eq_true, Bool.and_eq_true] at hord
    rcases hord with hord | ⟨hnn, hall⟩
    · -- one comes first
      have hsplit : ∃ k, k ∈ Region.ready .any ops listed ∧ othersOk r.mode ops listed k = true ∧ orderFrom r.mode ops N (tailsOf k ls) (listed.setIfInBounds k true) = true := by
        split at hord
        · rename_i k _ _
          simp only [Bool.and_eq_true] at hord
          exact ⟨k, by simpa using hord.1.1, hord.1.2, hord.2⟩
        · cases hord
      obtain ⟨k, hmem, hk, hrest⟩ := hsplit
      obtain ⟨o, m, s2, ho, hnm, hro, hps⟩ := prep k hmem hrest
      subst hnm
      have cont := contk k hrest m s2 rfl hps
      have hod : ∀ t, o.dst = some t → t < a.tmps.size := fun t ht => hd o (Array.mem_of_getElem? ho) t ht
      have hcl := othersOk_class ho hk
      have hsim : simpleOp o.op = true := simple_of (by simpa using hcl)
      have free : ∀ (R : World → World → Prop) (B' : Nat → Nat → Prop), (∀ op, mayMix r.mode o.op op = true → ∀ w w', UU B' op w w' → R w w') → ∀ j oj, ops[j]? = some oj → j ≠ k → listed.getD j true = false → (∀ e ∈ oj.after, Region.binds .any e = true → e.on ≠ k) → o.apart ops oj = true ∧ ∀ w w', UU B' oj.op w w' → R w w' := by
        intro R B' hR j oj hj hne hun hno
        obtain ⟨h1, h2⟩ := othersOk_spec ho hk j oj hj hne hun hno
        exact ⟨h1, hR oj.op h2⟩
      have selspec := Region.noSelect_spec hsel
      have top : ∀ val, Region.wanted o (yielded ops a.tmps) = true ∧ (∀ w', (execOp a.eval o).run E.P w' = .ok (.value val) w') ∨ (Region.wanted o (yielded ops a.tmps) = false ∧ val = undef) →
          (∀ op, mayMix r.mode o.op op = true → True) → After E X w a.tmps.size s2 (a.put o.dst val) w → wpAnyU E.P .any ops (fun e a' w' => e = .normal ∧ K a' w') (N + 1) B listed a w := by
        intro val hv _ haft
        refine wpAnyU_first (R := fun _ _ => True) (fun _ => trivial) (fun _ _ _ _ _ => trivial) ho selspec (fun c a w hc => by cases hc.1) (B' := B) (fun _ _ hb => hb) (fun w => UU.refl B _ w) N listed a w (free _ B (fun _ _ _ _ _ => trivial)) hmem ?_ (cont _ _ B haft hB)
        rcases hv with ⟨h1, h2⟩ | ⟨h1, h2⟩
        · exact .inl ⟨h1, fun w' _ => h2 w'⟩
        · exact .inr ⟨h1, h2⟩
      rcases runOp_simple h hod hsim hro with ⟨hw, haft⟩ | ⟨hw, hreads, fl, q, v, s3, hst, val, w1, hr, haft⟩
      · exact top undef (.inr ⟨hw, rfl⟩) (fun _ _ => trivial) haft
      · cases hpu : pureOp o.op with
        | true =>
          obtain ⟨val', hv⟩ := pure_run h o hst hpu
          have hrw := hv w
          rw [hr] at hrw
          cases hrw
          exact top val (.inl ⟨hw, hv⟩) (fun _ _ => trivial) haft
        | false =>
          have hlo : isLoad o.op = true := by rcases hcl with e | e; rw [hpu] at e; cases e; exact e
          have hw1 : w1 = w := dry_load o hlo _ w _ w1 hr
          subst hw1
          by_cases hm0 : 1 ≤ r.mode
          · cases hop : o.op with
            | load t x =>
              have hx : (∃ ob off, ev E s x = .ptr ob off ∧ above r.mode ob = true) ∨ ∃ cs, ev E s x = .view cs := by
                rw [hop] at hreads
                simp only [readsOk, hdr, Bool.not_true, Bool.false_or, Bool.or_eq_true, beq_iff_eq] at hreads
                rcases hreads with e | e
                · omega
                · generalize ev E s x = c at e
                  cases c with
                  | ptr ob off => exact .inl ⟨ob, off, rfl, e⟩
                  | view cs => exact .inr ⟨cs, rfl⟩
                  | _ => cases e
              have hst' : loadOp E fl q t (ev E s x) s = some (v, s3) := by rw [hop] at hst; exact hst
              obtain ⟨val', C, hC, hrun⟩ := load_look h o hop hst' hx
              have hrw := hrun w1 (fun _ _ _ _ hc => hc)
              rw [hr] at hrw
              cases hrw
              have hBC : ∀ b o, (B b o ∨ C b o) → Safe X w1 r.mode b o := fun b o e => e.elim (hB b o) (hC b o)
              refine wpAnyU_first (R := Pres C) (fun _ _ _ _ _ hc => hc) (fun _ _ _ h1 h2 b o u hb hc => h2 b o u hb (h1 b o u hb hc)) ho selspec (fun c a w hc => by cases hc.1) (B' := fun b o => B b o ∨ C b o) (fun _ _ hb => .inl hb) (fun w => UU.refl B _ w) N listed a w1
                (free _ _ (fun op hmix w w' hu => ?_)) hmem (.inl ⟨hw, hrun⟩) (cont _ _ _ haft hBC)
              have hmix' : ((pureOp op || isLoad op) = true) ∨ ((isAlloc op || isCallV op) = true) := by
                simp only [mayMix, hpu, Bool.false_or, Bool.and_eq_true, Bool.or_eq_true] at hmix
                simp only [Bool.or_eq_true]
                rcases hmix.2 with (e | e) | e
                · exact .inl (.inl e)
                · exact .inl (.inr e)
                · exact .inr e.2
              rcases hmix' with e | e
              · rw [hu.1 e]; exact fun _ _ _ _ hc => hc
              · exact fun b o u hb hc => hu.2 e b o u (.inr hb) hc
            | _ => rw [hop] at hlo; cases hlo
          · refine wpAnyU_first (R := fun w w' => w' = w) (fun _ => rfl) (fun _ _ _ h1 h2 => by rw [h2, h1]) ho selspec (fun c a w hc => by cases hc.1) (B' := B) (fun _ _ hb => hb) (fun w => UU.refl B _ w) N listed a w1
              (free _ B (fun op hmix w w' hu => ?_)) hmem (.inl ⟨hw, fun w' e => by rw [e]; exact hr⟩) (cont _ _ B haft hB)
            have : (pureOp op || isLoad op) = true := by
              simp only [mayMix, hpu, Bool.false_or, Bool.and_eq_true, Bool.or_eq_true, decide_eq_true_eq] at hmix
              simp only [Bool.or_eq_true]
              rcases hmix.2 with (e | e) | e
              · exact .inl e
              · exact .inr e
              · exact absurd e.1 hm0
            exact hu.1 this
    · -- each that may come next has its own orders
      refine ⟨fun e => (by rw [e] at hnn; simp at hnn), fun i hi => ?_⟩
      obtain ⟨o, m, s2, ho, hnm, hro, hps⟩ := prep i hi (List.all_eq_true.1 hall i hi)
      subst hnm
      have cont := contk i (List.all_eq_true.1 hall i hi) m s2 rfl hps
      have hod : ∀ t, o.dst = some t → t < a.tmps.size := fun t ht => hd o (Array.mem_of_getElem? ho) t ht
      have step : ∀ a2 w2, After E X w a.tmps.size s2 a2 w2 → UU B o.op w w2 → (∀ o', ops[i]? = some o' → UU B o'.op w w2) ∧ wpAnyU E.P .any ops (fun e a' w' => e = .normal ∧ K a' w') N B (listed.setIfInBounds i true) a2 w2 :=
        fun a2 w2 haft hu => ⟨fun o' ho' => by rw [ho] at ho'; cases ho'; exact hu, cont a2 w2 B haft hB⟩
      cases hs : simpleOp o.op with
      | true =>
        rcases runOp_simple h hod hs hro with ⟨hw, haft⟩ | ⟨hw, _, fl, q, v, s3, hst, val, w1, hr, haft⟩
        · exact wpOp_unwanted ho hw (step _ _ haft (UU.refl B _ w))
        · exact wpOp_value ho hw hr (step _ _ haft (simple_UU h hs hst hr))
      | false =>
        cases hg : guardOf ops s o with
        | none => cases m <;> simp [runOp, hg] at hro
        | some b =>
          cases b with
          | false =>
            obtain ⟨hw, haft⟩ := runOp_unwanted h hod hg hro
            exact wpOp_unwanted ho hw (step _ _ haft (UU.refl B _ w))
          | true =>
            refine runOp_sound (fun m' hm' => hcall m' (by omega)) hb ho h hod hro _ _ (fun a' w' haft hq => step _ _ haft ⟨fun hc => ?_, fun hc => ?_⟩)
            · rw [simple_of hc] at hs; cases hs
            · have hcv : isCallV o.op = true := by
                revert hs hc
                cases o.op with
                | call c =>
                  obtain ⟨callee, args, ts⟩ := c
                  cases callee <;> simp [simpleOp, isCallV]
                | store t x y => simp [isAlloc, isCallV]
                | _ => simp [simpleOp]
              intro b off u hbb hc
              rcases hB b off hbb with ⟨h1, _⟩ | ⟨o', h1, h2⟩
              · obtain ⟨_, X', _, hE, _⟩ := haft
                exact (hE.point hc h1).1
              · rw [cell?_of_heap (hq hg hdr hcv o' b h2 h1)]; exact hc

/-- A region that draws its order. -/
theorem draw_sound (hm : E.P.follows .mixedOrders = true) (hb : BodyOk E) : DrawOk E (drawCheck E.an) := by
  intro n hcall f id ops s s1 hck hp X a w h hd K hK
  simp only [drawCheck, Bool.and_eq_true] at hck
  obtain ⟨hsel, hord⟩ := hck
  refine wp_region_any hm (wpAny_of_U _ (fun _ _ => False) _ _ _ ?_)
  have := order_sound (K := K) hcall hb (r := { draws := true, mode := E.an.mode f id }) rfl hsel ops.size (E.an.order f id) n (fun _ _ => False) (Array.replicate ops.size false) X s s1 a w.drew (Nat.le_refl _) hord (fun l hl => agree_spec hp _ (List.mem_map.2 ⟨l, hl, rfl⟩)) h.drew hd (fun _ _ e => e.elim)
    (fun a' w' haft => hK a' w' (After.trans h.gdom ⟨[], by simp⟩ (Ext.drew X w) haft))
  exact this

theorem sound (hm : E.P.follows .mixedOrders = true) (hb : FuncsOk E (drawCheck E.an)) (n : Nat) : CallOk E n :=
  (all_sound hb (draw_sound hm fun h hk => let ⟨fn, c, g1, g2, g3, _⟩ := hb h hk; ⟨fn, c, g1, g2, g3⟩) n).2

end Go.Ab
