/- Danger: what splits and what halts, in both texts; the least such sets; what is tolerated. -/
import Derived.Test.YtfjcndlhpfbcgaaP16Inter
namespace Go.Proofs.Ytfjcndlhpfbcgaa
open Go Go.Ab Go.Sort
def splitB (c : Config) (s : Nat) : Bool := twoB (delC s c)
def haltB (c : Config) (s : Nat) : Bool := greatest c (ndiff (2 ^ c.Members.length - 1) s) == 0
theorem ValidC.cerr {c : Config} (h : ValidC c) : cerr c = 0 := cerr_zero.2 h
theorem pmembers_ok {c : Config} (hn : c.Members.length ≤ 10) : danger_members c = some ((2 ^ c.Members.length - 1 : Nat) : Int) := by
  apply danger_members_le
  rw [chk_true (by omega), members_int hn]
theorem pow_lt_of {n s : Nat} (hn : n ≤ 10) (hs : s < 2 ^ n) : s < 1024 := by have := pow10 hn; omega
theorem psplits_ok {c : Config} (hv : ValidC c) {s : Nat} (hs : s < 2 ^ c.Members.length) : danger_splits c (s : Int) = some (splitB c s) := by
  apply danger_splits_le
  rw [pdel_ok (pow_lt_of hv.1 hs) c hv.bears]
  simp only [Option.bind_some]
  rw [pholds_ok (delC_valid s hv).small (delC_valid s hv).cerr]
  simp only [Option.bind_some, Bool.not_not, splitB]
theorem phalts_ok {c : Config} (hv : ValidC c) {s : Nat} (hs : s < 2 ^ c.Members.length) : danger_halts c (s : Int) = some (haltB c s) := by
  have hp := pow10 hv.1
  have hlt : ndiff (2 ^ c.Members.length - 1) s < 1024 := ndiff_lt' (by omega)
  apply danger_halts_le
  rw [pmembers_ok hv.1]
  simp only [Option.bind_some]
  rw [andNotI_nat (by omega) (by omega), pgreatest_ok hlt hv.small]
  simp only [Option.bind_some, eqB_nat, haltB]
def askE (c : Config) (z : Int) : Int := if cerr c ≠ 0 then cerr c else if z < 0 then 1 else if ((2 ^ c.Members.length - 1 : Nat) : Int) < z then 1 else 0
theorem pasked_ok {c : Config} (hc : SmallC c) (z : Int) : danger_asked c z = some (askE c z) := by
  apply danger_asked_le
  rw [pcerr_ok hc]
  simp only [Option.bind_some, askE]
  by_cases he : cerr c = 0
  · rw [he, neB_self]
    simp only [cond_false, ne_eq, not_true, if_false]
    by_cases h0 : z < 0
    · rw [ltB_true h0, if_pos h0]; rfl
    · rw [ltB_false (by omega), if_neg h0, pmembers_ok (cerr_zero.1 he).1]
      simp only [cond_false, Option.bind_some]
      by_cases h1 : ((2 ^ c.Members.length - 1 : Nat) : Int) < z
      · rw [ltB_true h1, if_pos h1]; rfl
      · rw [ltB_false (by omega), if_neg h1]; rfl
  · rw [neB_ne he]
    simp [he]
theorem askE_zero {c : Config} {z : Int} (h : askE c z = 0) : ValidC c ∧ ∃ s : Nat, z = (s : Int) ∧ s < 2 ^ c.Members.length := by
  unfold askE at h
  have hp1 := Nat.two_pow_pos c.Members.length
  split at h
  · rename_i h1; exact absurd h h1
  · rename_i h1
    refine ⟨cerr_zero.1 (Classical.not_not.1 h1), z.toNat, ?_, ?_⟩
    · split at h
      · omega
      · omega
    · split at h
      · omega
      · split at h <;> omega
theorem askE_nat {c : Config} (hv : ValidC c) {s : Nat} (hs : s < 2 ^ c.Members.length) : askE c (s : Int) = 0 := by
  unfold askE
  rw [hv.cerr, if_neg (by simp), if_neg (by omega), if_neg (by omega)]
def splR (c : Config) (z : Int) : Bool × Int := if askE c z = 0 then (splitB c z.toNat, 0) else (false, askE c z)
theorem pSplits_ok {c : Config} (hc : SmallC c) (z : Int) : danger_Splits c z = some (splR c z) := by
  apply danger_Splits_le
  rw [pasked_ok hc]
  simp only [Option.bind_some, splR]
  by_cases h : askE c z = 0
  · obtain ⟨hv, s, rfl, hs⟩ := askE_zero h
    rw [h, neB_self, psplits_ok hv hs]
    rfl
  · rw [neB_ne h, if_neg h]; rfl
theorem splR_nat {c : Config} (hv : ValidC c) {s : Nat} (hs : s < 2 ^ c.Members.length) : splR c (s : Int) = (splitB c s, 0) := by
  unfold splR; rw [if_pos (askE_nat hv hs)]; rfl
theorem sleast_l1 {c : Config} (hv : ValidC c) {zs : List Nat} (hz : ∀ s ∈ zs, s < 2 ^ c.Members.length) (hzl : zs.length ≤ 1024) {r : List Int} (hr : nodeset_Least ((zs.filter (splitB c)).map Int.ofNat) = some r) : ∀ (suf pre : List Nat), zs = pre ++ suf →
    danger_least__danger_splits_l1 ((pre.filter (splitB c)).map Int.ofNat) (zs.map Int.ofNat) ((zs.length : Nat) : Int) ((pre.length : Nat) : Int) c.Members = some r
  | [], pre, e => by
    have hd := drop_pre e
    rw [List.append_nil] at e
    apply danger_least__danger_splits_l1_le
    rw [ltB_end hd, ← e]
    simp only [cond_false]
    rw [hr]
    rfl
  | s :: suf, pre, e => by
    have hd := drop_pre e
    have hlt := lt_drop hd
    have hs := hz s (by rw [e]; simp)
    have hpre : zs = (pre ++ [s]) ++ suf := by rw [e]; simp
    have hlen : (pre ++ [s]).length = pre.length + 1 := by simp
    have ih := sleast_l1 hv hz hzl hr suf (pre ++ [s]) hpre
    rw [hlen, List.filter_append] at ih
    have hle := List.length_filter_le (splitB c) pre
    apply danger_least__danger_splits_l1_le
    rw [ltB_drop hd]
    simp only [cond_true, nth_drop (map_drop_cons hd)]
    rw [show Config.mk c.Members = c from rfl, psplits_ok hv hs, next_nat (by omega)]
    simp only [Option.bind_some]
    cases h : splitB c s with
    | true =>
      simp only [List.filter_cons, h, if_true, List.filter_nil, List.map_append] at ih
      simp only [cond_true]
      rw [capOk_true (by simp [maxElems]; omega)]
      exact ih
    | false =>
      simp only [List.filter_cons, h, Bool.false_eq_true, if_false, List.filter_nil, List.append_nil] at ih
      exact ih
theorem psleast_ok {c : Config} (hv : ValidC c) : ∃ out, danger_least__danger_splits c = some (out.map Int.ofNat) ∧ LeastOf (pick (splitB c) (2 ^ c.Members.length)) out := by
  have hp := pow10 hv.1
  have hp1 := Nat.two_pow_pos c.Members.length
  have hu : 2 ^ c.Members.length - 1 < 1024 := by omega
  have hm : ∀ s ∈ ordSub (2 ^ c.Members.length - 1), s < 2 ^ c.Members.length := fun s hs => nat_sub.2 (mem_ordSub.1 hs)
  have hol := ordSub_len hu
  have hfl := List.length_filter_le (splitB c) (ordSub (2 ^ c.Members.length - 1))
  obtain ⟨out, h1, h2⟩ := nleast_ok ((ordSub (2 ^ c.Members.length - 1)).filter (splitB c)) (by omega) fun s hs => by have := hm s (List.mem_filter.1 hs).1; omega
  refine ⟨out, ?_, h2.of (Mins.perm fun s => ?_)⟩
  · apply danger_least__danger_splits_le
    rw [pmembers_ok hv.1]
    simp only [Option.bind_some]
    rw [psubsets_ok hu]
    simp only [Option.bind_some, List.length_map]
    exact sleast_l1 hv hm hol h1 _ [] rfl
  · rw [List.mem_filter, mem_pick, mem_ordSub, nat_sub]
theorem hleast_l1 {c : Config} (hv : ValidC c) {zs : List Nat} (hz : ∀ s ∈ zs, s < 2 ^ c.Members.length) (hzl : zs.length ≤ 1024) {r : List Int} (hr : nodeset_Least ((zs.filter (haltB c)).map Int.ofNat) = some r) : ∀ (suf pre : List Nat), zs = pre ++ suf →
    danger_least__danger_halts_l1 ((pre.filter (haltB c)).map Int.ofNat) (zs.map Int.ofNat) ((zs.length : Nat) : Int) ((pre.length : Nat) : Int) c.Members = some r
  | [], pre, e => by
    have hd := drop_pre e
    rw [List.append_nil] at e
    apply danger_least__danger_halts_l1_le
    rw [ltB_end hd, ← e]
    simp only [cond_false]
    rw [hr]
    rfl
  | s :: suf, pre, e => by
    have hd := drop_pre e
    have hlt := lt_drop hd
    have hs := hz s (by rw [e]; simp)
    have hpre : zs = (pre ++ [s]) ++ suf := by rw [e]; simp
    have hlen : (pre ++ [s]).length = pre.length + 1 := by simp
    have ih := hleast_l1 hv hz hzl hr suf (pre ++ [s]) hpre
    rw [hlen, List.filter_append] at ih
    have hle := List.length_filter_le (haltB c) pre
    apply danger_least__danger_halts_l1_le
    rw [ltB_drop hd]
    simp only [cond_true, nth_drop (map_drop_cons hd)]
    rw [show Config.mk c.Members = c from rfl, phalts_ok hv hs, next_nat (by omega)]
    simp only [Option.bind_some]
    cases h : haltB c s with
    | true =>
      simp only [List.filter_cons, h, if_true, List.filter_nil, List.map_append] at ih
      simp only [cond_true]
      rw [capOk_true (by simp [maxElems]; omega)]
      exact ih
    | false =>
      simp only [List.filter_cons, h, Bool.false_eq_true, if_false, List.filter_nil, List.append_nil] at ih
      exact ih
theorem phleast_ok {c : Config} (hv : ValidC c) : ∃ out, danger_least__danger_halts c = some (out.map Int.ofNat) ∧ LeastOf (pick (haltB c) (2 ^ c.Members.length)) out := by
  have hp := pow10 hv.1
  have hp1 := Nat.two_pow_pos c.Members.length
  have hu : 2 ^ c.Members.length - 1 < 1024 := by omega
  have hm : ∀ s ∈ ordSub (2 ^ c.Members.length - 1), s < 2 ^ c.Members.length := fun s hs => nat_sub.2 (mem_ordSub.1 hs)
  have hol := ordSub_len hu
  have hfl := List.length_filter_le (haltB c) (ordSub (2 ^ c.Members.length - 1))
  obtain ⟨out, h1, h2⟩ := nleast_ok ((ordSub (2 ^ c.Members.length - 1)).filter (haltB c)) (by omega) fun s hs => by have := hm s (List.mem_filter.1 hs).1; omega
  refine ⟨out, ?_, h2.of (Mins.perm fun s => ?_)⟩
  · apply danger_least__danger_halts_le
    rw [pmembers_ok hv.1]
    simp only [Option.bind_some]
    rw [psubsets_ok hu]
    simp only [Option.bind_some, List.length_map]
    exact hleast_l1 hv hm hol h1 _ [] rfl
  · rw [List.mem_filter, mem_pick, mem_ordSub, nat_sub]
theorem pSplitting_ok {c : Config} (hv : ValidC c) (h7 : c.Members.length ≤ 7) : ∃ out, danger_Splitting c = some (out.map Int.ofNat, 0) ∧ LeastOf (pick (splitB c) (2 ^ c.Members.length)) out := by
  obtain ⟨out, h1, h2⟩ := psleast_ok hv
  refine ⟨out, ?_, h2⟩
  apply danger_Splitting_le
  have hsm : danger_small c = some 0 := by
    apply danger_small_le
    rw [pcerr_ok hv.small, hv.cerr]
    simp only [Option.bind_some, neB_self, cond_false]
    rw [ltB_false (by omega)]; rfl
  rw [hsm]
  simp only [Option.bind_some, neB_self, cond_false]
  rw [h1]; rfl
theorem pHalting_ok {c : Config} (hv : ValidC c) : ∃ out, danger_Halting c = some (out.map Int.ofNat, 0) ∧ LeastOf (pick (haltB c) (2 ^ c.Members.length)) out := by
  obtain ⟨out, h1, h2⟩ := phleast_ok hv
  refine ⟨out, ?_, h2⟩
  apply danger_Halting_le
  rw [pcerr_ok hv.small, hv.cerr]
  simp only [Option.bind_some, neB_self, cond_false]
  rw [h1]; rfl
def tolr (n : Nat) : List Nat → Int
  | [] => (n : Int)
  | s :: _ => ((pc s : Nat) : Int) - 1
theorem pc_sub_one {s : Nat} (_h : s < 1024) : subI .i64 ((pc s : Nat) : Int) 1 = ((pc s : Nat) : Int) - 1 := by
  have := pc_le s
  rw [subI64 (by omega) (by omega)]
theorem ptol_ok {c : Config} {l : List Nat} (hl : ∀ s ∈ l, s < 1024) : danger_tolerated c (l.map Int.ofNat) = some (tolr c.Members.length l) := by
  apply danger_tolerated_le
  cases l with
  | nil => rfl
  | cons s r =>
    have hs := hl s (by simp)
    rw [List.length_map, eqB_nat]
    simp only [List.length_cons]
    rw [show ((r.length + 1 == 0) = false) by simp]
    simp only [cond_false]
    rw [nth_get (by omega) (show ((s :: r).map Int.ofNat)[((0 : Int)).toNat]? = some (s : Int) by simp), nsize_ok hs]
    simp only [Option.bind_some]
    rw [pc_sub_one hs]; rfl
theorem pTolerates_ok {c : Config} (hv : ValidC c) (h7 : c.Members.length ≤ 7) {a b : List Nat} (ha : LeastOf (pick (splitB c) (2 ^ c.Members.length)) a) (hb : LeastOf (pick (haltB c) (2 ^ c.Members.length)) b) :
    danger_Tolerates c = some (tolr c.Members.length a, tolr c.Members.length b, 0) := by
  have hp := pow10 hv.1
  obtain ⟨a', g1, g2⟩ := psleast_ok hv
  obtain ⟨b', g3, g4⟩ := phleast_ok hv
  have := LeastOf.unique ha g2 fun _ => Iff.rfl
  subst this
  have := LeastOf.unique hb g4 fun _ => Iff.rfl
  subst this
  apply danger_Tolerates_le
  have hsm : danger_small c = some 0 := by
    apply danger_small_le
    rw [pcerr_ok hv.small, hv.cerr]
    simp only [Option.bind_some, neB_self, cond_false]
    rw [ltB_false (by omega)]; rfl
  rw [hsm]
  simp only [Option.bind_some, neB_self, cond_false]
  rw [g1]
  simp only [Option.bind_some]
  rw [ptol_ok (ha.lt fun s hs => by have := (mem_pick.1 hs).1; omega)]
  simp only [Option.bind_some]
  rw [g3]
  simp only [Option.bind_some]
  rw [ptol_ok (hb.lt fun s hs => by have := (mem_pick.1 hs).1; omega)]
  rfl
end Go.Proofs.Ytfjcndlhpfbcgaa
