/- pdqsort and SortFunc: the printed functions are the kit's plain ones; what comes out is sorted. -/
import Derived.Test.YtfjcndlhpfbcgaaGreatZ16Sort11
import Derived.Sort.AssemblyPlain
namespace Go.Proofs.YtfjcndlhpfbcgaaGreat
open Go Go.Ab Go.Sort
noncomputable def qiw (a1 a3 p l : Int) (xs : List Int) : Option (List Int) :=
  Option.bind (z02 a1 a3 p xs) fun x10 =>
  bif (ltB (subI .i64 x10.1 a1) (subI .i64 a3 x10.1)) then
    Option.bind (z01 a1 x10.1 l x10.2.2) fun x11 =>
    z00 (addI .i64 x10.1 1) a3 l (leB (quoI .i64 (subI .i64 a3 a1) 8) (subI .i64 x10.1 a1)) x10.2.1 x11
  else
    Option.bind (z01 (addI .i64 x10.1 1) a3 l x10.2.2) fun x12 =>
    z00 a1 x10.1 l (leB (quoI .i64 (subI .i64 a3 a1) 8) (subI .i64 a3 x10.1)) x10.2.1 x12
noncomputable def q89 (a1 a3 p l : Int) (wb wp : Bool) (xs : List Int) : Option (List Int) :=
  bif (ltB 0 a1) then
    nth xs (subI .i64 a1 1) fun _ =>
    nth xs p fun _ =>
    nthN xs (Int.toNat (subI .i64 a1 1)) fun y6 =>
    nthN xs (Int.toNat p) fun y7 =>
    Option.bind (z08 y6 y7) fun x8 =>
    bif (!(ltB x8 0)) then
      Option.bind (z04 a1 a3 p xs) fun x9 =>
      z00 x9.1 a3 l wb wp x9.2
    else
      qiw a1 a3 p l xs
  else
    qiw a1 a3 p l xs
theorem quo8 {x : Nat} (h : x < 4611686018427387904) : quoI .i64 (x : Int) 8 = ((x / 8 : Nat) : Int) := by
  show IntKind.wrap .i64 ((x : Int).tdiv 8) = _
  rw [Int.tdiv_eq_ediv_of_nonneg (by omega), q4s (by omega) (by omega)]
  omega
def qco (lt : Int → Int → Bool) (d3 : Array Int) (a b pivot limit : Nat) (wb wp : Bool) : Array Int :=
  if a > 0 && !lt d3[a - 1]! d3[pivot]! then
    match partitionEqual lt d3 a b pivot with
    | (mid, d4) => if _h : a < mid ∧ mid ≤ b then pdq lt d4 mid b limit wb wp else d4
  else
    match Sort.partition lt d3 a b pivot with
    | (mid, alreadyPartitioned, d4) =>
      if _h : a ≤ mid ∧ mid < b then
        if mid - a < b - mid then
          pdq lt (pdq lt d4 a mid limit true true) (mid + 1) b limit (decide (mid - a ≥ (b - a) / 8)) alreadyPartitioned
        else
          pdq lt (pdq lt d4 (mid + 1) b limit true true) a mid limit (decide (b - mid ≥ (b - a) / 8)) alreadyPartitioned
      else d4
theorem pi_ok {cmp : Int → Int → Int} (hc : ∀ x y, z08 x y = some (cmp x y)) (a b : Nat) (d : Array Int) (hab : a < b) (hb : b ≤ d.size) (hd : Lim d) :
    z09 (a : Int) (b : Int) d.toList = some ((partialInsertionSort (fun x y => ltB (cmp x y) 0) d a b).2, (partialInsertionSort (fun x y => ltB (cmp x y) 0) d a b).1.toList) := by
  apply y2a
  have hd' : d.size < 1152921504606846976 := hd
  rw [q04 (by omega)]
  exact pi_l1 hc a b hab 5 0 (a + 1) d rfl (Nat.le_refl _) (by omega) hb hd
theorem y2r (lt : Int → Int → Bool) (d : Array Int) (a b limit : Nat) (wb wp : Bool) (h1 : ¬ b - a ≤ 12) (h2 : limit ≠ 0) : pdq lt d a b limit wb wp =
    (let d1 := if !wb then breakPatterns d a b else d
     let l := if !wb then limit - 1 else limit
     let c := choosePivot lt d1 a b
     let d2 := if c.2 = .decreasing then reverseRange d1 a b else d1
     let p := if c.2 = .decreasing then (b - 1) - (c.1 - a) else c.1
     let hint := if c.2 = .decreasing then Hint.increasing else c.2
     let pi := if wb && wp && hint = .increasing then partialInsertionSort lt d2 a b else (d2, false)
     if pi.2 then pi.1 else qco lt pi.1 a b p l wb wp) := by
  rw [pdq, if_neg h1, if_neg h2]
  rfl
section
variable {cmp : Int → Int → Int} (hc : ∀ x y, z08 x y = some (cmp x y)) (hS : SWO (fun x y => ltB (cmp x y) 0))
include hc hS
def Ih (cmp : Int → Int → Int) (n : Nat) : Prop := ∀ (a b limit : Nat) (wb wp : Bool) (d : Array Int), b - a < n → b - a < 65536 → a ≤ b → b ≤ d.size → Lim d → limit < 1000 → Below (fun x y => ltB (cmp x y) 0) a b d →
  z00 (a : Int) (b : Int) (limit : Int) wb wp d.toList = some (pdq (fun x y => ltB (cmp x y) 0) d a b limit wb wp).toList
theorem qk1 {a b p limit : Nat} {d : Array Int} (ih : Ih cmp (b - a)) (h16 : b - a < 65536) (hap : a ≤ p) (hpb : p < b) (hb : b ≤ d.size) (hd : Lim d) (hl : limit < 1000) (hB : Below (fun x y => ltB (cmp x y) 0) a b d) :
    qiw (a : Int) (b : Int) (p : Int) (limit : Int) d.toList = some (match Sort.partition (fun x y => ltB (cmp x y) 0) d a b p with
    | (mid, alreadyPartitioned, d4) =>
      if _h : a ≤ mid ∧ mid < b then
        if mid - a < b - mid then
          pdq (fun x y => ltB (cmp x y) 0) (pdq (fun x y => ltB (cmp x y) 0) d4 a mid limit true true) (mid + 1) b limit (decide (mid - a ≥ (b - a) / 8)) alreadyPartitioned
        else
          pdq (fun x y => ltB (cmp x y) 0) (pdq (fun x y => ltB (cmp x y) 0) d4 (mid + 1) b limit true true) a mid limit (decide (b - mid ≥ (b - a) / 8)) alreadyPartitioned
      else d4).toList := by
  have hd' : d.size < 1152921504606846976 := hd
  unfold qiw
  rw [y0n hc a b p d hap hpb hb hd]
  simp only [Option.bind_some]
  cases hx : Sort.partition (fun x y => ltB (cmp x y) 0) d a b p with
  | mk mid q =>
    obtain ⟨ap, d4⟩ := q
    obtain ⟨h1, h2, hs4, hB1, hB2, hL1, hL2⟩ := round_part hS (partition_holds _) hap hpb hb hB hx
    simp only
    rw [dif_pos ⟨h1, h2⟩, subN h1 (by omega), subN (by omega) (by omega), subN (by omega) (by omega), quo8 (by omega), q04 (by omega)]
    have call : ∀ (a' b' : Nat) (dd : Array Int), b' - a' < b - a → a' ≤ b' → b' ≤ dd.size → Lim dd → Below (fun x y => ltB (cmp x y) 0) a' b' dd →
        z01 (a' : Int) (b' : Int) (limit : Int) dd.toList = some (pdq (fun x y => ltB (cmp x y) 0) dd a' b' limit true true).toList := by
      intro a' b' dd g1 g2 g3 g4 g5
      exact qzm _ _ _ _ _ (ih a' b' limit true true dd g1 (by omega) g2 g3 g4 hl g5)
    have lb : ∀ x y : Nat, leB ((x / 8 : Nat) : Int) (y : Int) = decide (y ≥ x / 8) := fun x y => by
      by_cases h : x / 8 ≤ y
      · rw [q0f (by omega)]; simp [h]
      · rw [q0a (by omega)]; simp [h]
    have hl4 : Lim d4 := by unfold Lim; omega
    by_cases hlt : mid - a < b - mid
    · rw [q05 (by omega), if_pos hlt]
      simp only [cond_true]
      obtain ⟨p1, p2⟩ := pdq_sorts (fun x y => ltB (cmp x y) 0) hS d4 a mid limit true true h1 (by omega) hB1
      rw [call a mid d4 (by omega) h1 (by omega) hl4 hB1]
      simp only [Option.bind_some]
      have hsz : (pdq (fun x y => ltB (cmp x y) 0) d4 a mid limit true true).size = d.size := by rw [p1.1, hs4]
      rw [ih (mid + 1) b limit _ ap _ (by omega) (by omega) (by omega) (by omega) (by unfold Lim; omega) hl (hL1 _ p1 p2).1, lb]
    · rw [q02 (by omega), if_neg hlt]
      simp only [cond_false]
      obtain ⟨p1, p2⟩ := pdq_sorts (fun x y => ltB (cmp x y) 0) hS d4 (mid + 1) b limit true true (by omega) (by omega) hB2
      rw [call (mid + 1) b d4 (by omega) (by omega) (by omega) hl4 hB2]
      simp only [Option.bind_some]
      have hsz : (pdq (fun x y => ltB (cmp x y) 0) d4 (mid + 1) b limit true true).size = d.size := by rw [p1.1, hs4]
      rw [ih a mid limit _ ap _ (by omega) (by omega) (by omega) (by omega) (by unfold Lim; omega) hl (hL2 _ p1 p2).1, lb]
theorem qv1 {a b p limit : Nat} {wb wp : Bool} {d : Array Int} (ih : Ih cmp (b - a)) (h16 : b - a < 65536) (hap : a ≤ p) (hpb : p < b) (hb : b ≤ d.size) (hd : Lim d) (hl : limit < 1000) (hB : Below (fun x y => ltB (cmp x y) 0) a b d) :
    q89 (a : Int) (b : Int) (p : Int) (limit : Int) wb wp d.toList = some (qco (fun x y => ltB (cmp x y) 0) d a b p limit wb wp).toList := by
  have hd' : d.size < 1152921504606846976 := hd
  unfold q89 qco
  by_cases h0 : 0 < a
  · have e1 : subI .i64 (a : Int) 1 = ((a - 1 : Nat) : Int) := subN (y := 1) h0 (by omega)
    rw [q05 (by omega), e1, nthA (by omega), nthA (by omega), Int.toNat_natCast, Int.toNat_natCast, nthNA (by omega), nthNA (by omega), hc]
    simp only [cond_true, Option.bind_some]
    by_cases hlt : ltB (cmp d[a - 1]! d[p]!) 0 = true
    · rw [hlt]
      simp only [Bool.not_true, cond_false, Bool.and_false, Bool.false_eq_true, if_false]
      exact qk1 hc hS ih h16 hap hpb hb hd hl hB
    · have hf : ltB (cmp d[a - 1]! d[p]!) 0 = false := by simpa using hlt
      rw [hf]
      simp only [Bool.not_false, cond_true, Bool.and_true, decide_eq_true h0, if_true]
      rw [qus hc a b p d hap hpb hb hd]
      simp only [Option.bind_some]
      cases hx : partitionEqual (fun x y => ltB (cmp x y) 0) d a b p with
      | mk mid d4 =>
        obtain ⟨h1, h2, hs4, hB4, _⟩ := round_eq hS (partitionEqual_holds _) h0 hap hpb hb hB hf hx
        simp only
        rw [dif_pos ⟨h1, h2⟩]
        exact ih mid b limit wb wp d4 (by omega) (by omega) h2 (by omega) (by unfold Lim; omega) hl hB4
  · rw [q02 (by omega)]
    simp only [cond_false, gt_iff_lt, decide_eq_false h0, Bool.false_and, Bool.false_eq_true, if_false]
    exact qk1 hc hS ih h16 hap hpb hb hd hl hB
theorem qzn : ∀ n, Ih cmp n
  | 0 => fun a b limit wb wp d h => by omega
  | n + 1 => by
    intro a b limit wb wp d hn h16 hab hb hd hl hB
    have hd' : d.size < 1152921504606846976 := hd
    have ih : Ih cmp (b - a) := fun a' b' l' wb' wp' dd g => qzn n a' b' l' wb' wp' dd (by omega)
    apply y45
    have e12 := subN hab (show b < 4611686018427387904 by omega)
    by_cases h12 : b - a ≤ 12
    · rw [show leB (subI .i64 (b : Int) (a : Int)) 12 = true by rw [e12, q0f (by omega)], y3j hc a b d hab hb (by omega)]
      rw [pdq, if_pos h12]
      rfl
    · rw [show leB (subI .i64 (b : Int) (a : Int)) 12 = false by rw [e12, q0a (by omega)]]
      simp only [cond_false]
      by_cases h0 : limit = 0
      · subst h0
        rw [Int.natCast_zero, q0t, y08 hc a b d hab hb (by omega)]
        rw [pdq, if_neg h12, if_pos rfl]
        rfl
      · rw [q0z (by omega), y2r _ d a b limit wb wp h12 h0]
        simp only [cond_false]
        have hlt : a < b := by omega
        have tail : ∀ (d2 : Array Int) (p l : Nat) (wb wp : Bool), PermIn a b d d2 → a ≤ p → p < b → l < 1000 → q89 (a : Int) (b : Int) (p : Int) (l : Int) wb wp d2.toList = some (qco (fun x y => ltB (cmp x y) 0) d2 a b p l wb wp).toList := by
          intro d2 p l wb wp hp g1 g2 g3
          exact qv1 hc hS ih h16 g1 g2 (by rw [hp.1]; exact hb) (by unfold Lim; rw [hp.1]; exact hd') g3 (hB.perm hb hp)
        have both : ∀ (d1 : Array Int) (l : Nat) (wb wp : Bool), PermIn a b d d1 → l < 1000 →
            (Option.bind (z0p (a : Int) (b : Int) d1.toList) fun x3 =>
              bif (eqB x3.2.1 2) then
                Option.bind (z0l (a : Int) (b : Int) x3.2.2) fun x4 =>
                bif wb && wp then
                  Option.bind (z09 (a : Int) (b : Int) x4) fun x5 =>
                  bif x5.1 then some x5.2 else q89 (a : Int) (b : Int) (subI .i64 (subI .i64 (b : Int) 1) (subI .i64 x3.1 (a : Int))) (l : Int) wb wp x5.2
                else q89 (a : Int) (b : Int) (subI .i64 (subI .i64 (b : Int) 1) (subI .i64 x3.1 (a : Int))) (l : Int) wb wp x4
              else
                bif wb && wp && eqB x3.2.1 1 then
                  Option.bind (z09 (a : Int) (b : Int) x3.2.2) fun x5 =>
                  bif x5.1 then some x5.2 else q89 (a : Int) (b : Int) x3.1 (l : Int) wb wp x5.2
                else q89 (a : Int) (b : Int) x3.1 (l : Int) wb wp x3.2.2) =
            some (let c := choosePivot (fun x y => ltB (cmp x y) 0) d1 a b
              let d2 := if c.2 = .decreasing then reverseRange d1 a b else d1
              let p := if c.2 = .decreasing then (b - 1) - (c.1 - a) else c.1
              let hint := if c.2 = .decreasing then Hint.increasing else c.2
              let pi := if wb && wp && hint = .increasing then partialInsertionSort (fun x y => ltB (cmp x y) 0) d2 a b else (d2, false)
              if pi.2 then pi.1 else qco (fun x y => ltB (cmp x y) 0) pi.1 a b p l wb wp).toList := by
          intro d1 l wb wp hp hl1
          have hb1 : b ≤ d1.size := by rw [hp.1]; exact hb
          have hd1 : Lim d1 := by unfold Lim; rw [hp.1]; exact hd'
          have hd1' : d1.size < 1152921504606846976 := hd1
          rw [y04 hc d1 a b hlt hb1 hd1]
          obtain ⟨c1, c2⟩ := choosePivot_holds (fun x y => ltB (cmp x y) 0) d1 a b hlt
          simp only [Option.bind_some]
          generalize choosePivot (fun x y => ltB (cmp x y) 0) d1 a b = c at c1 c2
          have fin : ∀ (d2 : Array Int) (p : Nat), PermIn a b d d2 → a ≤ p → p < b →
              (Option.bind (z09 (a : Int) (b : Int) d2.toList) fun x5 =>
                bif x5.1 then some x5.2 else q89 (a : Int) (b : Int) (p : Int) (l : Int) wb wp x5.2) =
              some (if (partialInsertionSort (fun x y => ltB (cmp x y) 0) d2 a b).2 then (partialInsertionSort (fun x y => ltB (cmp x y) 0) d2 a b).1 else qco (fun x y => ltB (cmp x y) 0) (partialInsertionSort (fun x y => ltB (cmp x y) 0) d2 a b).1 a b p l wb wp).toList := by
            intro d2 p hp2 g1 g2
            have hb2 : b ≤ d2.size := by rw [hp2.1]; exact hb
            rw [pi_ok hc a b d2 hlt hb2 (by unfold Lim; rw [hp2.1]; exact hd')]
            simp only [Option.bind_some]
            obtain ⟨q1, _⟩ := partialInsertionSort_holds hS d2 a b hlt hb2 (hB.perm hb hp2)
            cases hok : (partialInsertionSort (fun x y => ltB (cmp x y) 0) d2 a b).2 with
            | true => rfl
            | false =>
              simp only [cond_false, Bool.false_eq_true, if_false]
              exact tail _ p l wb wp (permIn_trans _ _ _ a b hp2 q1) g1 g2 hl1
          cases hh : c.2 with
          | decreasing =>
            have e2 : eqB (hintI Hint.decreasing) 2 = true := rfl
            rw [e2]
            simp only [cond_true, if_true]
            rw [y3q a b d1 hab (by omega) hb1 hd1]
            simp only [Option.bind_some]
            have e3 : subI .i64 (subI .i64 (b : Int) 1) (subI .i64 (c.1 : Int) (a : Int)) = ((b - 1 - (c.1 - a) : Nat) : Int) := by
              rw [subN c1 (by omega), show (1 : Int) = ((1 : Nat) : Int) from rfl, subN (by omega) (by omega), subN (by omega) (by omega)]
            rw [e3]
            have hp2 := permIn_trans _ _ _ a b hp (reverseRange_holds d1 a b hab hb1)
            cases hw : (wb && wp) with
            | true =>
              simp only [cond_true, Bool.true_and, decide_true, if_true]
              exact fin _ _ hp2 (by omega) (by omega)
            | false =>
              simp only [cond_false, Bool.false_and, Bool.false_eq_true, if_false]
              exact tail _ _ l wb wp hp2 (by omega) (by omega) hl1
          | increasing =>
            have e2 : eqB (hintI Hint.increasing) 2 = false := rfl
            have e4 : eqB (hintI Hint.increasing) 1 = true := rfl
            rw [e2, e4]
            simp only [cond_false, Bool.and_true, reduceCtorEq, if_false, decide_true]
            cases hw : (wb && wp) with
            | true =>
              simp only [cond_true, if_true]
              exact fin _ _ hp c1 c2
            | false =>
              simp only [cond_false, Bool.false_eq_true, if_false]
              exact tail _ _ l wb wp hp c1 c2 hl1
          | unknown =>
            have e2 : eqB (hintI Hint.unknown) 2 = false := rfl
            have e4 : eqB (hintI Hint.unknown) 1 = false := rfl
            rw [e2, e4]
            simp only [cond_false, Bool.and_false, reduceCtorEq, if_false, decide_false, Bool.false_eq_true]
            exact tail _ _ l wb wp hp c1 c2 hl1
        cases wb with
        | false =>
          simp only [Bool.not_false, cond_true, if_true, Bool.false_and]
          have hp1 := breakPatterns_holds d a b hab hb
          have el : subI .i64 (limit : Int) 1 = ((limit - 1 : Nat) : Int) := subN (y := 1) (by omega) (by omega)
          rw [qwt a b d hab hb hd h16, el]
          simp only [Option.bind_some]
          cases wp with
          | true => exact both _ (limit - 1) false true hp1 (by omega)
          | false => exact both _ (limit - 1) false false hp1 (by omega)
        | true =>
          simp only [Bool.not_true, cond_false, Bool.false_eq_true, if_false, Bool.true_and]
          cases wp with
          | true => exact both d limit true true (permIn_refl d a b) hl
          | false => exact both d limit true false (permIn_refl d a b) hl
theorem y0e (xs : List Int) (hl : xs.length < 65536) : ∃ ys, z0e xs = some ys ∧ ys.Perm xs ∧ ys.Pairwise fun x y => ltB (cmp y x) 0 = false := by
  have hd : Lim xs.toArray := by unfold Lim; simp; omega
  have hb := q58 (n := xs.length) (k := 16) hl
  obtain ⟨p1, p2⟩ := pdq_sorts (fun x y => ltB (cmp x y) 0) hS xs.toArray 0 xs.length (bitsLen xs.length) true true (Nat.zero_le _) (by simp) (.inl rfl)
  refine ⟨(pdq (fun x y => ltB (cmp x y) 0) xs.toArray 0 xs.length (bitsLen xs.length) true true).toList, ?_, ?_, ?_⟩
  · apply y5a
    rw [wrapU (by omega), qzb hl]
    simp only [Option.bind_some]
    have := qzn hc hS (xs.length + 1) 0 xs.length (bitsLen xs.length) true true xs.toArray (by omega) (by omega) (by omega) (by simp) hd (by omega) (.inl rfl)
    have h2 : z01 0 (xs.length : Int) ((bitsLen xs.length : Nat) : Int) xs = some _ := qzm _ _ _ _ _ this
    rw [h2]
    rfl
  · have := p1.2.2
    have hsz : (pdq (fun x y => ltB (cmp x y) 0) xs.toArray 0 xs.length (bitsLen xs.length) true true).size = xs.length := by rw [p1.1]; simp
    have e1 : ∀ d : Array Int, d.size = xs.length → d.extract 0 xs.length = d := fun d hd => by rw [← hd]; simp
    rw [e1 _ hsz, e1 _ (by simp)] at this
    simpa using this
  · have hsz : (pdq (fun x y => ltB (cmp x y) 0) xs.toArray 0 xs.length (bitsLen xs.length) true true).size = xs.length := by rw [p1.1]; simp
    rw [List.pairwise_iff_getElem]
    intro i j hi hj hij
    have hi' : i < xs.length := by rw [← hsz]; simpa using hi
    have hj' : j < xs.length := by rw [← hsz]; simpa using hj
    have := p2 i j (Nat.zero_le _) hij hj'
    rw [getElem!_pos _ _ (by omega), getElem!_pos _ _ (by omega)] at this
    simpa using this
end
end Go.Proofs.YtfjcndlhpfbcgaaGreat
