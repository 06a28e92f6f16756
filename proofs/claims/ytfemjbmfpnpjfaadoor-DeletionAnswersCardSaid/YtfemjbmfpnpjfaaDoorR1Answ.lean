/- Bent configurations, small trusts, DeletionAnswers. -/
import Derived.Test.YtfemjbmfpnpjfaaDoorR1Bent
namespace Go.Proofs.YtfemjbmfpnpjfaaDoor
open Go Go.Ab

theorem Member.eta (m : Member) : Member.mk m.Declared m.Trust = m := by cases m; rfl
def nobody : Member := ⟨false, ⟨0, [], []⟩⟩
theorem TB_nobody : TB nobody.Trust := ⟨by simp [nobody, size, sizes], by simp [nobody, wf, wfs]⟩
theorem bentC_l2 {l : List Int} (a6 a8 : List Member) (i : Int) : ∀ (n : Nat) (acc : List Member), 11 - acc.length ≤ n → acc.length < 900000 → (∀ m ∈ acc, TB m.Trust) →
    ∃ q, mk_BentConfig_l2 l i a6 a8 acc = some (⟨q⟩, l, i) ∧ q.length < 1000000 ∧ ∀ m ∈ q, TB m.Trust
  | n, acc, hn, hl, ha => by
    by_cases h : acc.length ≤ 10
    · obtain ⟨n, rfl⟩ : ∃ k, n = k + 1 := ⟨n - 1, by omega⟩
      obtain ⟨q, h1, h2, h3⟩ := bentC_l2 (l := l) a6 a8 i n (acc ++ [nobody]) (by simp; omega) (by simp; omega) (fun m hm => by
        rcases List.mem_append.1 hm with hm | hm
        · exact ha m hm
        · rw [List.mem_singleton] at hm; subst hm; exact TB_nobody)
      refine ⟨q, ?_, h2, h3⟩
      apply mk_BentConfig_l2_le
      rw [leB_true (by omega)]
      simp only [cond_true]
      rw [capOk_true (by simp [maxElems]; omega)]
      exact h1
    · refine ⟨acc, ?_, by omega, ha⟩
      apply mk_BentConfig_l2_le
      rw [leB_false (by omega)]
      rfl
theorem bentC_ok {l : List Int} {c : Config} (hl : c.Members.length < 900000) (hc : ∀ m ∈ c.Members, size m.Trust < 900000 ∧ wf m.Trust = true) {i : Int} (h : TapeOk l i) :
    ∃ d j, mk_BentConfig c l i = some (d, l, j) ∧ CB d ∧ TapeOk l j := by
  have hT : ∀ m ∈ c.Members, TB m.Trust := fun m hm => ⟨by have := (hc m hm).1; omega, (hc m hm).2⟩
  have setTB : ∀ (k : Nat) (m : Member), TB m.Trust → CB ⟨c.Members.set k m⟩ := fun k m hm => ⟨by simp; omega, fun x hx => by
    rcases List.mem_or_eq_of_mem_set hx with hx | rfl
    · exact hT x hx
    · exact hm⟩
  by_cases hne : c.Members.length = 0
  · obtain ⟨p, j, b1, b2, b3⟩ := Pick_ok (ps := [1, 10, 11]) (by simp) (by simp) h
    have hp : 0 ≤ p ∧ p ≤ 11 := by simp at b2; omega
    refine ⟨⟨List.replicate p.toNat nobody⟩, j, ?_, ⟨by simp; omega, fun m hm => by rw [(List.mem_replicate.1 hm).2]; exact TB_nobody⟩, b3⟩
    apply mk_BentConfig_le
    simp only [List.nil_append, hne]
    rw [capOk_true (by simp [maxElems])]
    simp only [Int.natCast_zero, eqB_self, cond_true]
    rw [b1]
    simp only [Option.bind_some]
    rw [chk_true ⟨trivial, hp.1, by omega⟩]
    rfl
  · obtain ⟨p, j, b1, b2, b3, b4⟩ := N_ok (n := ((c.Members.length : Nat) : Int)) (by omega) (by omega) h
    have hp : p.toNat < c.Members.length := by omega
    have hg : c.Members[p.toNat]? = some c.Members[p.toNat] := List.getElem?_eq_getElem hp
    have hm := List.getElem_mem hp
    generalize c.Members[p.toNat] = y at hg hm
    obtain ⟨v, j2, d1, d2, d3, d4⟩ := N_ok (n := 5) (by decide) (by decide) b4
    have pre : ∀ r, (
      bif (eqB v 0) then
        nthN c.Members (Int.toNat p) fun y3 =>
        nthN c.Members (Int.toNat p) fun y4 =>
        some ((Config.mk (List.set c.Members (Int.toNat p) (Member.mk (!y3.Declared) (Trust.mk y4.Trust.Threshold y4.Trust.Nodes y4.Trust.Inner)))), l, j2)
      else
        bif (eqB v 1) then
          nthN c.Members (Int.toNat p) fun y5 =>
          Option.bind (mk_BentTrust y5.Trust l j2) fun x6 =>
          nthN c.Members (Int.toNat p) fun y7 =>
          some ((Config.mk (List.set c.Members (Int.toNat p) (Member.mk y7.Declared (Trust.mk x6.1.Threshold x6.1.Nodes x6.1.Inner)))), x6.2.1, x6.2.2)
        else
          bif (eqB v 2) then
            nthN c.Members (Int.toNat p) fun y8 =>
            some ((Config.mk (List.set c.Members (Int.toNat p) (Member.mk y8.Declared (Trust.mk 1 ([((List.length c.Members : Nat) : Int)] : List (Int)) ([] : List (Trust)))))), l, j2)
          else
            bif (eqB v 3) then
              hiK (List.length c.Members) (subI .i64 ((List.length c.Members : Nat) : Int) 1) fun b9 =>
              some ((Config.mk (List.drop 0 (List.take b9 c.Members))), l, j2)
            else
              mk_BentConfig_l1 false l j2 c.Members ([] : List (Member)) c.Members) = some r → mk_BentConfig c l i = some r := by
      intro r hr
      apply mk_BentConfig_le
      simp only [List.nil_append]
      rw [capOk_true (by simp [maxElems]; omega), eqB_ne (by omega)]
      simp only [cond_false]
      rw [b1]
      simp only [Option.bind_some, nth_get b2 hg]
      rw [d1]
      exact hr
    by_cases h0 : v = 0
    · subst h0
      refine ⟨_, j2, pre _ (by simp only [eqB_self, cond_true, nthN_get hg, Trust.eta]), setTB p.toNat ⟨!y.Declared, y.Trust⟩ (hT y hm), d4⟩
    by_cases h1 : v = 1
    · subst h1
      obtain ⟨z, j3, e1, e2, e3, e4⟩ := bent_ok (l := l) y.Trust (by have := (hc y hm).1; omega) (hc y hm).2 j2 d4
      refine ⟨_, j3, pre _ (by simp only [eqB_ne h0, eqB_self, cond_true, cond_false, nthN_get hg, e1, Option.bind_some, Trust.eta]), setTB p.toNat ⟨y.Declared, z⟩ ⟨by have := (hc y hm).1; show size z < _; omega, e3⟩, e4⟩
    by_cases h2 : v = 2
    · subst h2
      refine ⟨_, j2, pre _ (by simp only [eqB_ne h0, eqB_ne h1, eqB_self, cond_true, cond_false, nthN_get hg]), setTB p.toNat ⟨y.Declared, ⟨1, [((List.length c.Members : Nat) : Int)], []⟩⟩ ⟨by simp [size, sizes], by simp [wf, wfs]⟩, d4⟩
    by_cases h3 : v = 3
    · subst h3
      refine ⟨_, j2, pre _ (by
        simp only [eqB_ne h0, eqB_ne h1, eqB_ne h2, eqB_self, cond_true, cond_false]
        rw [subI64 (by omega) (by omega), hiK_true (by omega) (by omega)]), ⟨by simp; omega, fun m hm => hT m (List.mem_of_mem_take (List.mem_of_mem_drop hm))⟩, d4⟩
    have hl1 : ∃ q, mk_BentConfig_l1 false l j2 c.Members [] c.Members = some (⟨q⟩, l, j2) ∧ q.length < 1000000 ∧ ∀ m ∈ q, TB m.Trust := by
      by_cases h10 : c.Members.length ≤ 10
      · obtain ⟨q, h1, h2, h3⟩ := bentC_l2 (l := l) c.Members [] j2 11 (c.Members ++ [nobody]) (by omega) (by simp; omega) (fun m hm => by
          rcases List.mem_append.1 hm with hm | hm
          · exact hT m hm
          · rw [List.mem_singleton] at hm; subst hm; exact TB_nobody)
        refine ⟨q, ?_, h2, h3⟩
        apply mk_BentConfig_l1_le
        rw [leB_true (by omega)]
        simp only [cond_true]
        rw [capOk_true (by simp [maxElems]; omega)]
        exact h1
      · refine ⟨c.Members, ?_, by omega, hT⟩
        apply mk_BentConfig_l1_le
        rw [leB_false (by omega)]
        rfl
    obtain ⟨q, e1, e2, e3⟩ := hl1
    exact ⟨⟨q⟩, j2, pre _ (by simp only [eqB_ne h0, eqB_ne h1, eqB_ne h2, eqB_ne h3, cond_false]; exact e1), ⟨e2, e3⟩, d4⟩

/-! ### Small ones -/
mutual
def raw : Trust → Bool
  | ⟨thr, nodes, inner⟩ => decide (thr < 9223372036854775808) && (decide (nodes.length < 1152921504606846976) && (decide (inner.length < 1152921504606846976) && raws inner))
def raws : List Trust → Bool
  | [] => true
  | x :: r => raw x && raws r
end
theorem raw_eq (t : Trust) : raw t = (decide (t.Threshold < 9223372036854775808) && (decide (t.Nodes.length < 1152921504606846976) && (decide (t.Inner.length < 1152921504606846976) && raws t.Inner))) := by cases t; simp only [raw]
theorem raws_mem {l : List Trust} (h : raws l = true) : ∀ x ∈ l, raw x = true := by
  induction l with
  | nil => intro x hx; cases hx
  | cons y r ih =>
    simp only [raws, Bool.and_eq_true] at h
    intro x hx
    rcases List.mem_cons.1 hx with rfl | hx
    · exact h.1
    · exact ih h.2 x hx
theorem raw_wf : ∀ t : Trust, raw t = true → wf t = true := by
  apply Trust.ind
  intro t ih h
  rw [raw_eq] at h
  simp only [Bool.and_eq_true, decide_eq_true_eq] at h
  rw [wf_eq]
  have : ∀ l : List Trust, raws l = true → (∀ x ∈ l, raw x = true → wf x = true) → wfs l = true := by
    intro l
    induction l with
    | nil => intro _ _; rfl
    | cons y r ihr =>
      intro h1 h2
      simp only [raws, Bool.and_eq_true] at h1
      simp only [wfs, h2 y (by simp) h1.1, ihr h1.2 (fun x hx => h2 x (by simp [hx])), Bool.and_self]
  simp [h.1, this t.Inner h.2.2.2 ih]

theorem entries_ok : ∀ t : Trust, raw t = true → ∀ n : Nat, n ≤ 400 → ∃ m : Nat, mk_entries t (n : Int) = some ((m : Nat) : Int) ∧ n + 1 ≤ m ∧ m < 1152921504606847378 ∧ (m ≤ 400 → n + size t + 1 ≤ m) := by
  apply Trust.ind
  intro t ih h n hn
  rw [raw_eq] at h
  simp only [Bool.and_eq_true, decide_eq_true_eq] at h
  obtain ⟨_, hN, hI, hR⟩ := h
  have l1 : ∀ (suf : List Trust) (i m0 : Nat), t.Inner.drop i = suf → m0 < 1152921504606847378 →
      ∃ m : Nat, mk_entries_l1 ((m0 : Nat) : Int) (i : Int) t.Threshold t.Nodes t.Inner = some ((m : Nat) : Int) ∧ m0 ≤ m ∧ m < 1152921504606847378 ∧ (m ≤ 400 → m0 + suf.length + sizes suf ≤ m) := by
    intro suf
    induction suf with
    | nil =>
      intro i m0 hd hm
      refine ⟨m0, ?_, Nat.le_refl _, hm, fun _ => by simp [sizes]⟩
      apply mk_entries_l1_le
      simp only [ltB_end hd, cond_false]
    | cons y suf ihs =>
      intro i m0 hd hm
      have hlt := lt_drop hd
      have hy : y ∈ t.Inner := List.mem_of_mem_drop (by rw [hd]; exact List.mem_cons_self)
      by_cases h4 : m0 ≤ 400
      · obtain ⟨m1, e1, e2, e3, e4⟩ := ih y hy (raws_mem hR y hy) m0 h4
        obtain ⟨m, f1, f2, f3, f4⟩ := ihs (i + 1) m1 (drop_next hd) e3
        refine ⟨m, ?_, by omega, f3, fun hm => ?_⟩
        · apply mk_entries_l1_le
          simp only [ltB_drop hd, cond_true, leB_true (show ((m0 : Nat) : Int) ≤ 400 by omega), nth_drop hd, e1, Option.bind_some, next_nat (show i < 4611686018427387904 by omega)]
          exact f1
        · have := f4 hm; have := e4 (by omega); simp only [List.length_cons, sizes]; omega
      · refine ⟨m0, ?_, Nat.le_refl _, hm, fun hh => by omega⟩
        apply mk_entries_l1_le
        simp only [ltB_drop hd, cond_true, leB_false (show (400 : Int) < ((m0 : Nat) : Int) by omega), cond_false]
  obtain ⟨m, f1, f2, f3, f4⟩ := l1 t.Inner 0 (n + (1 + t.Nodes.length)) rfl (by omega)
  refine ⟨m, ?_, by omega, f3, fun hm => by have := f4 hm; rw [size_eq]; omega⟩
  apply mk_entries_le
  rw [addI64 (a := 1) (by omega) (by omega), addI64 (by omega) (by omega), show (n : Int) + (1 + ((t.Nodes.length : Nat) : Int)) = ((n + (1 + t.Nodes.length) : Nat) : Int) by omega]
  exact f1
theorem smallT_ok {t : Trust} (h : raw t = true) : ∃ b, mk_SmallTrust t = some b ∧ (b = true → size t ≤ 400) := by
  obtain ⟨m, e1, e2, e3, e4⟩ := entries_ok t h 0 (by decide)
  refine ⟨leB ((m : Nat) : Int) 400, ?_, fun hb => ?_⟩
  · apply mk_SmallTrust_le
    rw [show (0 : Int) = ((0 : Nat) : Int) from rfl, e1]
    rfl
  · have : m ≤ 400 := by simp [leB] at hb; omega
    have := e4 this; omega
theorem smallC_ok {c : Config} (h : ∀ m ∈ c.Members, raw m.Trust = true) : ∃ b, mk_SmallConfig c = some b ∧ (b = true → c.Members.length ≤ 30 ∧ ∀ m ∈ c.Members, size m.Trust ≤ 400) := by
  by_cases hl : 30 < c.Members.length
  · refine ⟨false, ?_, fun h => by cases h⟩
    apply mk_SmallConfig_le
    rw [ltB_true (by omega)]
    rfl
  · have l1 : ∀ (suf : List Member) (i m0 : Nat), c.Members.drop i = suf → m0 < 1152921504606847378 →
        ∃ b, mk_SmallConfig_l1 ((m0 : Nat) : Int) (i : Int) c.Members = some b ∧ (b = true → m0 ≤ 400 ∧ ∀ m ∈ suf, size m.Trust ≤ 400) := by
      intro suf
      induction suf with
      | nil =>
        intro i m0 hd hm
        refine ⟨leB ((m0 : Nat) : Int) 400, ?_, fun hb => ⟨by simp [leB] at hb; omega, fun m hm => by cases hm⟩⟩
        apply mk_SmallConfig_l1_le
        simp only [ltB_end hd, cond_false]
      | cons y suf ihs =>
        intro i m0 hd hm
        have hlt := lt_drop hd
        have hy : y ∈ c.Members := List.mem_of_mem_drop (by rw [hd]; exact List.mem_cons_self)
        by_cases h4 : m0 ≤ 400
        · obtain ⟨m1, e1, e2, e3, e4⟩ := entries_ok y.Trust (h y hy) m0 h4
          obtain ⟨b, f1, f2⟩ := ihs (i + 1) m1 (drop_next hd) e3
          refine ⟨b, ?_, fun hb => ⟨h4, fun m hm => ?_⟩⟩
          · apply mk_SmallConfig_l1_le
            simp only [ltB_drop hd, cond_true, leB_true (show ((m0 : Nat) : Int) ≤ 400 by omega), nth_drop hd, e1, Option.bind_some, next_nat (show i < 4611686018427387904 by omega)]
            exact f1
          · obtain ⟨g1, g2⟩ := f2 hb
            rcases List.mem_cons.1 hm with rfl | hm
            · have := e4 g1; omega
            · exact g2 m hm
        · refine ⟨false, ?_, fun h => by cases h⟩
          apply mk_SmallConfig_l1_le
          simp only [ltB_drop hd, cond_true, leB_false (show (400 : Int) < ((m0 : Nat) : Int) by omega), cond_false]
    obtain ⟨b, f1, f2⟩ := l1 c.Members 0 0 rfl (by omega)
    refine ⟨b, ?_, fun hb => ⟨by omega, (f2 hb).2⟩⟩
    apply mk_SmallConfig_le
    rw [ltB_false (by omega)]
    exact f1

/-! ### The law -/
theorem valid_size {t : Trust} (h : valid t = true) : size t ≤ 200 := by
  simp only [valid, Bool.and_eq_true, decide_eq_true_eq] at h; exact h.2.1

section
variable {l : List Int} {node : Int} {r y : Trust} {c d : Config} (haw : law13_awake = some true) (hr : size r ≤ 400 ∧ wf r = true) (hy : size y ≤ 400 ∧ wf y = true)
  (hc : c.Members.length ≤ 30 ∧ ∀ m ∈ c.Members, size m.Trust ≤ 400 ∧ wf m.Trust = true) (hd : d.Members.length ≤ 30 ∧ ∀ m ∈ d.Members, size m.Trust ≤ 400 ∧ wf m.Trust = true)

theorem answers_l4 (z : Int) (zs : List Int) (len k : Int) (K : ∀ j, TapeOk l j → law13_DeletionAnswers_l1 node zs len (addI .i64 k 1) r.Threshold r.Nodes r.Inner c.Members l j d.Members y.Threshold y.Nodes y.Inner = some true)
    (cs : List Config) (hcs : cs.length < 100) (hC : ∀ w ∈ cs, CB w) (j : Int) (hj : TapeOk l j) : ∀ (suf : List Config) (i : Nat), cs.drop i = suf →
    law13_DeletionAnswers_l4 node z zs len k cs ((cs.length : Nat) : Int) (i : Int) r.Threshold r.Nodes r.Inner c.Members l j d.Members y.Threshold y.Nodes y.Inner = some true
  | [], i, h => by
    apply law13_DeletionAnswers_l4_le
    simp only [ltB_end h, cond_false]
    exact K j hj
  | w :: suf, i, h => by
    have hlt := lt_drop h
    obtain ⟨q, e1, e2, e3, e4⟩ := conf_both (hC w (List.mem_of_mem_drop (by rw [h]; exact List.mem_cons_self))) z
    obtain ⟨b, g1, g2⟩ := same_conf q q e3 e4
    apply law13_DeletionAnswers_l4_le
    simp only [ltB_drop h, cond_true, nth_drop h, e1, e2, g1, g2.2 rfl, Option.bind_some, Bool.not_true, cond_false, next_nat (show i < 4611686018427387904 by omega)]
    exact answers_l4 z zs len k K cs hcs hC j hj suf (i + 1) (drop_next h)

theorem answers_l3 (z : Int) (zs : List Int) (len k : Int) (ts : List Trust) (tl ti : Int) (w : Trust) (hw : TB w) (j : Int)
    (K : law13_DeletionAnswers_l2 node z zs len k ts tl (addI .i64 ti 1) r.Threshold r.Nodes r.Inner c.Members l j d.Members y.Threshold y.Nodes y.Inner = some true)
    (ks : List Int) (hks : ks.length < 100) : ∀ (suf : List Int) (i : Nat), ks.drop i = suf →
    law13_DeletionAnswers_l3 node z zs len k ts tl ti ks ((ks.length : Nat) : Int) (i : Int) r.Threshold r.Nodes r.Inner c.Members l j d.Members y.Threshold y.Nodes y.Inner w.Threshold w.Nodes w.Inner = some true
  | [], i, h => by
    apply law13_DeletionAnswers_l3_le
    simp only [ltB_end h, cond_false]
    exact K
  | n :: suf, i, h => by
    have hlt := lt_drop h
    obtain ⟨q, e1, e2, e3⟩ := trust_both hw n z
    obtain ⟨b, g1, g2⟩ := same_ok q e3 q
    apply law13_DeletionAnswers_l3_le
    simp only [ltB_drop h, cond_true, nth_drop h, Trust.eta, e1, e2, g1, g2.2 rfl, Option.bind_some, Bool.not_true, cond_false, next_nat (show i < 4611686018427387904 by omega)]
    exact answers_l3 z zs len k ts tl ti w hw j K ks hks suf (i + 1) (drop_next h)

include hc hd
theorem answers_l2 (z : Int) (zs : List Int) (len k : Int) (K : ∀ j, TapeOk l j → law13_DeletionAnswers_l1 node zs len (addI .i64 k 1) r.Threshold r.Nodes r.Inner c.Members l j d.Members y.Threshold y.Nodes y.Inner = some true)
    (ts : List Trust) (hts : ts.length < 100) (hT : ∀ w ∈ ts, TB w) : ∀ (suf : List Trust) (i : Nat) (j : Int), ts.drop i = suf → TapeOk l j →
    law13_DeletionAnswers_l2 node z zs len k ts ((ts.length : Nat) : Int) (i : Int) r.Threshold r.Nodes r.Inner c.Members l j d.Members y.Threshold y.Nodes y.Inner = some true
  | [], i, j, h, hj => by
    obtain ⟨b, j2, e1, e2, e3⟩ := bentC_ok (c := d) (by have := hd.1; omega) (fun m hm => ⟨by have := (hd.2 m hm).1; omega, (hd.2 m hm).2⟩) hj
    have cb : ∀ {q : Config}, (q.Members.length ≤ 30 ∧ ∀ m ∈ q.Members, size m.Trust ≤ 400 ∧ wf m.Trust = true) → CB q := fun hq => ⟨by have := hq.1; omega, fun m hm => ⟨by have := (hq.2 m hm).1; omega, (hq.2 m hm).2⟩⟩
    apply law13_DeletionAnswers_l2_le
    simp only [ltB_end h, cond_false]
    rw [e1]
    simp only [Option.bind_some]
    refine answers_l4 z zs len k K [d, b, c] (by simp) (fun w hw => ?_) j2 e3 _ 0 rfl
    simp only [List.mem_cons, List.not_mem_nil, or_false] at hw
    rcases hw with rfl | rfl | rfl
    · exact cb hd
    · exact e2
    · exact cb hc
  | w :: suf, i, j, h, hj => by
    have hlt := lt_drop h
    obtain ⟨v, j2, e1, e2, e3, e4⟩ := N_ok (n := 10) (by decide) (by decide) hj
    apply law13_DeletionAnswers_l2_le
    simp only [ltB_drop h, cond_true, nth_drop h]
    rw [e1]
    simp only [Option.bind_some]
    refine answers_l3 z zs len k ts _ (i : Int) w (hT w (List.mem_of_mem_drop (by rw [h]; exact List.mem_cons_self))) j2 ?_ [node, v] (by simp) _ 0 rfl
    rw [next_nat (show i < 4611686018427387904 by omega)]
    exact answers_l2 z zs len k K ts hts hT suf (i + 1) j2 (drop_next h) e4

include haw hr hy
theorem answers_l1 (zs : List Int) (hzs : zs.length < 100) : ∀ (suf : List Int) (i : Nat) (j : Int), zs.drop i = suf → TapeOk l j →
    law13_DeletionAnswers_l1 node zs ((zs.length : Nat) : Int) (i : Int) r.Threshold r.Nodes r.Inner c.Members l j d.Members y.Threshold y.Nodes y.Inner = some true
  | [], i, j, h, hj => by
    apply law13_DeletionAnswers_l1_le
    simp only [ltB_end h, cond_false, haw, Option.bind_some]
  | z :: suf, i, j, h, hj => by
    have hlt := lt_drop h
    obtain ⟨b, j2, e1, e2, e3, e4⟩ := bent_ok (l := l) y (by have := hy.1; omega) hy.2 j hj
    apply law13_DeletionAnswers_l1_le
    simp only [ltB_drop h, cond_true, nth_drop h, Trust.eta]
    rw [e1]
    simp only [Option.bind_some]
    refine answers_l2 hc hd z zs _ (i : Int) (fun j hj => ?_) [y, b, r] (by simp) (fun w hw => ?_) _ 0 j2 rfl e4
    · rw [next_nat (show i < 4611686018427387904 by omega)]
      exact answers_l1 zs hzs suf (i + 1) j (drop_next h) hj
    · simp only [List.mem_cons, List.not_mem_nil, or_false] at hw
      rcases hw with rfl | rfl | rfl
      · exact ⟨by have := hy.1; omega, hy.2⟩
      · exact ⟨by have := hy.1; omega, e3⟩
      · exact ⟨by have := hr.1; omega, hr.2⟩
end

theorem answers_law (haw : law13_awake = some true) (t : List Int) (r : Trust) (c : Config) (node x : Int) (hr : raw r = true) (hc : ∀ m ∈ c.Members, raw m.Trust = true) : law13_DeletionAnswers t r c node x = some true := by
  obtain ⟨b, s1, s2⟩ := smallT_ok hr
  obtain ⟨b', s3, s4⟩ := smallC_ok hc
  apply law13_DeletionAnswers_le
  rw [s1]
  cases b with
  | false => simp only [Option.bind_some, Bool.not_false, cond_true, haw]
  | true =>
    rw [s3]
    cases b' with
    | false => simp only [Option.bind_some, Bool.not_true, Bool.not_false, cond_true, cond_false, haw]
    | true =>
      obtain ⟨l, a1, a2⟩ := New_ok t
      obtain ⟨d, j, b1, b2, b3⟩ := Config_ok (n := 10) (by decide) (by decide) a2
      obtain ⟨y, j2, c1, c2, c3, c4⟩ := Trust_ok (n := 10) (by decide) (by decide) 3 (by decide) b3
      obtain ⟨v1, j3, d1, _, _, d4⟩ := N_ok (n := 1024) (by decide) (by decide) c4
      obtain ⟨v2, j4, e1, _, _, e4⟩ := N_ok (n := 1024) (by decide) (by decide) d4
      simp only [Option.bind_some, Bool.not_true, cond_false]
      rw [a1]
      simp only [Option.bind_some]
      rw [show (10 : Int) = ((10 : Nat) : Int) from rfl, b1]
      simp only [Option.bind_some]
      rw [show (4 : Int) = ((3 + 1 : Nat) : Int) from rfl, show ((10 : Nat) : Int) = 10 from rfl, c1]
      simp only [Option.bind_some]
      rw [d1]
      simp only [Option.bind_some]
      rw [e1]
      simp only [Option.bind_some]
      refine answers_l1 haw ⟨s2 rfl, raw_wf r hr⟩ ⟨by have := valid_size c2.1; omega, (valid_fits c2.1).2⟩ ⟨(s4 rfl).1, fun m hm => ⟨(s4 rfl).2 m hm, raw_wf _ (hc m hm)⟩⟩ ⟨by have := b2.le; omega, fun m hm => ?_⟩ [x, v1, v2, 0, 1023] (by simp) _ 0 j4 rfl e4
      have := b2.mem m hm
      unfold MemOk at this
      split at this
      · exact ⟨by have := valid_size this.1; omega, (valid_fits this.1).2⟩
      · rw [this]; exact ⟨by simp [blank, size, sizes], by simp [blank, wf, wfs]⟩
end Go.Proofs.YtfemjbmfpnpjfaaDoor
