/- BlockingAnswers: the law, on the machine. -/
import Derived.Test.YtfailfoncbbgjaaP11Bans
import Derived.Test.YtfailfoncbbgjaaP11Awake
namespace Go.Proofs.Ytfailfoncbbgjaa
open Go Go.Ab
theorem ans_l5 {a0 a2 : Int} {a4 : List Int} {z : Int} {cs : List Config} {a12 a14 : Int} {zs : List Int} {a18 a20 : Int} {raw cm : List Member} {tl : List Int} {ti : Int} {w : Config} (hw : SmallC w)
    (K : law11_BlockingAnswers_l4 a0 a2 a4 cs a12 a14 zs a18 (addI .i64 a20 1) raw tl ti cm w.Members = some true) {os : List (List Int)} (hos : os.length < 100) (ho : ∀ o ∈ os, o.length ≤ 2000) : ∀ (suf : List (List Int)) (i : Nat), os.drop i = suf →
    law11_BlockingAnswers_l5 a0 a2 a4 z cs a12 a14 zs a18 a20 os ((os.length : Nat) : Int) (i : Int) raw tl ti cm w.Members = some true
  | [], i, h => by
    apply law11_BlockingAnswers_l5_le
    rw [ltB_end h]
    exact K
  | o :: suf, i, h => by
    have hlt := lt_drop h
    obtain ⟨r, e1, e2⟩ := check_both hw z (ho o (List.mem_of_mem_drop (by rw [h]; simp)))
    apply law11_BlockingAnswers_l5_le
    rw [ltB_drop h]
    simp only [cond_true, nth_drop h]
    rw [show Config.mk w.Members = w from rfl, e1, e2]
    simp only [Option.bind_some, neB_self, cond_false]
    rw [next_nat (by omega)]
    exact ans_l5 hw K hos ho suf (i + 1) (drop_next h)
theorem ans_l4 {a0 a2 : Int} {a4 : List Int} (h4 : a4.length ≤ 40) {cs : List Config} {a12 a14 : Int} {raw cm : List Member} {tl : List Int} {w : Config} (hw : SmallC w)
    (K : ∀ ti, TapeOk tl ti → law11_BlockingAnswers_l1 a0 a2 a4 cs a12 (addI .i64 a14 1) raw tl ti cm = some true) {zs : List Int} (hzs : zs.length < 100) : ∀ (suf : List Int) (i : Nat) (ti : Int), zs.drop i = suf → TapeOk tl ti →
    law11_BlockingAnswers_l4 a0 a2 a4 cs a12 a14 zs ((zs.length : Nat) : Int) (i : Int) raw tl ti cm w.Members = some true
  | [], i, ti, h, ht => by
    apply law11_BlockingAnswers_l4_le
    rw [ltB_end h]
    exact K ti ht
  | z :: suf, i, ti, h, ht => by
    have hlt := lt_drop h
    obtain ⟨l, q, e1, e2, e3⟩ := cascade_both hw z
    obtain ⟨p, j, o1, o2, _, t2⟩ := Order_ok (n := ((l.length : Nat) : Int)) (by omega) (by omega) ht
    obtain ⟨y, j2, n1, _, _, t3⟩ := N_ok (n := 10) (by decide) (by decide) t2
    have ih := ans_l4 h4 hw K hzs suf (i + 1) j2 (drop_next h) t3
    apply law11_BlockingAnswers_l4_le
    rw [ltB_drop h]
    simp only [cond_true, nth_drop h]
    rw [show Config.mk w.Members = w from rfl, e1, e2]
    simp only [Option.bind_some, neB_self, cond_false]
    rw [mkints_dec (by omega), decide_eq_true rfl]
    simp only [Option.bind_some, Bool.not_true, cond_false]
    rw [o1]
    simp only [Option.bind_some]
    rw [capOk_true (by simp [maxElems]; omega), n1]
    simp only [Option.bind_some]
    rw [capOk_true (by simp [maxElems]; omega)]
    rw [← next_nat (show i < 4611686018427387904 by omega)] at ih
    refine ans_l5 hw ih (by simp) (fun o ho => ?_) _ 0 rfl
    simp only [List.mem_cons, List.not_mem_nil, or_false] at ho
    rcases ho with rfl | rfl | rfl | rfl
    · omega
    · omega
    · omega
    · simp; omega
theorem ans_l3 {a0 a2 : Int} {a4 : List Int} {k : Int} {cs : List Config} {a12 a14 : Int} {ks : List Int} {a18 a20 : Int} {raw cm : List Member} {tl : List Int} {ti : Int} {w : Config} (hw : SmallC w)
    (K : law11_BlockingAnswers_l2 a0 a2 a4 cs a12 a14 ks a18 (addI .i64 a20 1) raw tl ti cm w.Members = some true) {zs : List Int} (hzs : zs.length < 100) : ∀ (suf : List Int) (i : Nat), zs.drop i = suf →
    law11_BlockingAnswers_l3 a0 a2 a4 k cs a12 a14 ks a18 a20 zs ((zs.length : Nat) : Int) (i : Int) raw tl ti cm w.Members = some true
  | [], i, h => by
    apply law11_BlockingAnswers_l3_le
    rw [ltB_end h]
    exact K
  | z :: suf, i, h => by
    have hlt := lt_drop h
    obtain ⟨b, e1, e2⟩ := blocks_both hw k z
    apply law11_BlockingAnswers_l3_le
    rw [ltB_drop h]
    simp only [cond_true, nth_drop h]
    rw [show Config.mk w.Members = w from rfl, e1, e2]
    simp only [Option.bind_some, beq_self_eq_true, Bool.not_true, cond_false]
    rw [next_nat (by omega)]
    exact ans_l3 hw K hzs suf (i + 1) (drop_next h)
theorem ans_l2 {a0 a2 : Int} {a4 : List Int} (h4 : a4.length ≤ 40) {cs : List Config} {a12 a14 : Int} {raw cm : List Member} {tl : List Int} {w : Config} (hw : SmallC w)
    (K : ∀ ti, TapeOk tl ti → law11_BlockingAnswers_l1 a0 a2 a4 cs a12 (addI .i64 a14 1) raw tl ti cm = some true) {ks : List Int} (hks : ks.length < 100) : ∀ (suf : List Int) (i : Nat) (ti : Int), ks.drop i = suf → TapeOk tl ti →
    law11_BlockingAnswers_l2 a0 a2 a4 cs a12 a14 ks ((ks.length : Nat) : Int) (i : Int) raw tl ti cm w.Members = some true
  | [], i, ti, h, ht => by
    obtain ⟨x, j, e1, _, _, t2⟩ := N_ok (n := 1024) (by decide) (by decide) ht
    obtain ⟨y, j2, e2, _, _, t3⟩ := N_ok (n := 64) (by decide) (by decide) t2
    apply law11_BlockingAnswers_l2_le
    rw [ltB_end h]
    simp only [cond_false]
    rw [e1]
    simp only [Option.bind_some]
    rw [e2]
    simp only [Option.bind_some]
    exact ans_l4 h4 hw K (by simp) _ 0 j2 rfl t3
  | k :: suf, i, ti, h, ht => by
    have hlt := lt_drop h
    obtain ⟨out, e, b1, b2, b3⟩ := least_both hw k
    obtain ⟨x, j, e1, _, _, t2⟩ := N_ok (n := 1024) (by decide) (by decide) ht
    obtain ⟨y, j2, e2, _, _, t3⟩ := N_ok (n := 1024) (by decide) (by decide) t2
    have ih := ans_l2 h4 hw K hks suf (i + 1) j2 (drop_next h) t3
    apply law11_BlockingAnswers_l2_le
    rw [ltB_drop h]
    simp only [cond_true, nth_drop h]
    rw [show Config.mk w.Members = w from rfl, b1, b2]
    simp only [Option.bind_some, neB_self, cond_false]
    rw [mkints_dec (by omega), decide_eq_true rfl]
    simp only [Option.bind_some, Bool.not_true, cond_false]
    rw [e1]
    simp only [Option.bind_some]
    rw [e2]
    simp only [Option.bind_some]
    rw [← next_nat (show i < 4611686018427387904 by omega)] at ih
    exact ans_l3 hw ih (by simp) _ 0 rfl
theorem ans_l1 {a0 a2 : Int} {a4 : List Int} (h4 : a4.length ≤ 40) {raw cm : List Member} {tl : List Int} {cs : List Config} (hcs : cs.length < 100) (hc : ∀ w ∈ cs, SmallC w) : ∀ (suf : List Config) (i : Nat) (ti : Int), cs.drop i = suf → TapeOk tl ti →
    law11_BlockingAnswers_l1 a0 a2 a4 cs ((cs.length : Nat) : Int) (i : Int) raw tl ti cm = some true
  | [], i, ti, h, ht => by
    apply law11_BlockingAnswers_l1_le
    rw [ltB_end h, awake_true]
    rfl
  | w :: suf, i, ti, h, ht => by
    have hlt := lt_drop h
    obtain ⟨x, j, e1, _, _, t2⟩ := N_ok (n := 10) (by decide) (by decide) ht
    apply law11_BlockingAnswers_l1_le
    rw [ltB_drop h]
    simp only [cond_true, nth_drop h]
    rw [e1]
    simp only [Option.bind_some]
    refine ans_l2 h4 (hc w (List.mem_of_mem_drop (by rw [h]; simp))) (fun ti ht => ?_) (by simp) _ 0 j rfl t2
    rw [next_nat (by omega)]
    exact ans_l1 h4 hcs hc suf (i + 1) ti (drop_next h) ht
theorem answers_law (t : List Int) (r : Config) (v x : Int) (l : List Int) (hr : ∀ m ∈ r.Members, raw m.Trust = true) : law11_BlockingAnswers t r v x l = some true := by
  obtain ⟨b, s1, s2⟩ := smallC_ok hr
  apply law11_BlockingAnswers_le
  rw [s1]
  cases b with
  | false => simp only [Option.bind_some, Bool.not_false, cond_true, awake_true]
  | true =>
    simp only [Option.bind_some, Bool.not_true, cond_false]
    by_cases hl : l.length ≤ 40
    · rw [ltB_false (by omega)]
      simp only [cond_false]
      obtain ⟨tl, a1, a2⟩ := New_ok t
      obtain ⟨c, j, b1, b2, b3⟩ := Config_ok (n := 10) (by decide) (by decide) a2
      have hcb := b2.CB' (by decide)
      obtain ⟨d, j2, d1, d2, d3⟩ := bentC_ok hcb.1 hcb.2 b3
      rw [a1]
      simp only [Option.bind_some]
      rw [show (10 : Int) = ((10 : Nat) : Int) from rfl, b1]
      simp only [Option.bind_some]
      rw [d1]
      simp only [Option.bind_some]
      refine ans_l1 hl (by simp) (fun w hw => ?_) _ 0 j2 rfl d3
      simp only [List.mem_cons, List.not_mem_nil, or_false] at hw
      rcases hw with rfl | rfl | rfl
      · exact (CB.of hcb).small
      · exact d2.small
      · obtain ⟨g1, g2⟩ := s2 rfl
        exact ⟨by show r.Members.length < _; omega, fun m hm => by have := g2 m hm; unfold Small; omega⟩
    · rw [ltB_true (by omega), awake_true]
      rfl
end Go.Proofs.Ytfailfoncbbgjaa
