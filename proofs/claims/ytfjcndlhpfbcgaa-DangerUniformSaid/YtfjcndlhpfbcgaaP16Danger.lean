/- Danger: what splits and what halts, in both texts; the least such sets; what is tolerated. -/
import Derived.Test.YtfjcndlhpfbcgaaP16Inter
namespace Go.Proofs.Ytfjcndlhpfbcgaa
open Go Go.Ab Go.Sort
def splitB (c : Config) (s : Nat) : Bool := twoB (delC s c)
def haltB (c : Config) (s : Nat) : Bool := greatest c (ndiff (2 ^ c.Members.length - 1) s) == 0
theorem ValidC.cerr {c : Config} (h : ValidC c) : cerr c = 0 := cerr_zero.2 h
theorem pmembers_ok {c : Config} (hn : c.Members.length ≤ 10) : z2m c = some ((2 ^ c.Members.length - 1 : Nat) : Int) := by
  apply z2m_le
  rw [chk_true (by omega), members_int hn]
theorem pow_lt_of {n s : Nat} (hn : n ≤ 10) (hs : s < 2 ^ n) : s < 1024 := by have := pow10 hn; omega
theorem psplits_ok {c : Config} (hv : ValidC c) {s : Nat} (hs : s < 2 ^ c.Members.length) : z3p c (s : Int) = some (splitB c s) := by
  apply z3p_le
  rw [pdel_ok (pow_lt_of hv.1 hs) c hv.bears]
  simp only [Option.bind_some]
  rw [pholds_ok (delC_valid s hv).small (delC_valid s hv).cerr]
  simp only [Option.bind_some, Bool.not_not, splitB]
theorem phalts_ok {c : Config} (hv : ValidC c) {s : Nat} (hs : s < 2 ^ c.Members.length) : z3r c (s : Int) = some (haltB c s) := by
  have hp := pow10 hv.1
  have hlt : ndiff (2 ^ c.Members.length - 1) s < 1024 := ndiff_lt' (by omega)
  apply z3r_le
  rw [pmembers_ok hv.1]
  simp only [Option.bind_some]
  rw [andNotI_nat (by omega) (by omega), pgreatest_ok hlt hv.small]
  simp only [Option.bind_some, eqB_nat, haltB]
theorem sleast_l1 {c : Config} (hv : ValidC c) {zs : List Nat} (hz : ∀ s ∈ zs, s < 2 ^ c.Members.length) (hzl : zs.length ≤ 1024) {r : List Int} (hr : z2h ((zs.filter (splitB c)).map Int.ofNat) = some r) : ∀ (suf pre : List Nat), zs = pre ++ suf →
    z1b ((pre.filter (splitB c)).map Int.ofNat) (zs.map Int.ofNat) ((zs.length : Nat) : Int) ((pre.length : Nat) : Int) c.Members = some r
  | [], pre, e => by
    have hd := drop_pre e
    rw [List.append_nil] at e
    apply z1b_le
    rw [ltB_end hd, ← e]
    simp only [cond_false]
    rw [hr]
    rfl
  | s :: suf, pre, e => by
    have hd := drop_pre e
    have hlt := lt_drop hd
    have hs := hz s (by rw [e]; simp)
    have hpre : zs = (pre ++ [s]) ++ suf := by rw [e]; simp
    have hlen : (pre ++ [s]).length = pre.length + 1 := by simp
    have ih := sleast_l1 hv hz hzl hr suf (pre ++ [s]) hpre
    rw [hlen, List.filter_append] at ih
    have hle := List.length_filter_le (splitB c) pre
    apply z1b_le
    rw [ltB_drop hd]
    simp only [cond_true, nth_drop (map_drop_cons hd)]
    rw [show Config.mk c.Members = c from rfl, psplits_ok hv hs, next_nat (by omega)]
    simp only [Option.bind_some]
    cases h : splitB c s with
    | true =>
      simp only [List.filter_cons, h, if_true, List.filter_nil, List.map_append] at ih
      simp only [cond_true]
      rw [capOk_true (by simp [maxElems]; omega)]
      exact ih
    | false =>
      simp only [List.filter_cons, h, Bool.false_eq_true, if_false, List.filter_nil, List.append_nil] at ih
      exact ih
theorem psleast_ok {c : Config} (hv : ValidC c) : ∃ out, z1m c = some (out.map Int.ofNat) ∧ LeastOf (pick (splitB c) (2 ^ c.Members.length)) out := by
  have hp := pow10 hv.1
  have hp1 := Nat.two_pow_pos c.Members.length
  have hu : 2 ^ c.Members.length - 1 < 1024 := by omega
  have hm : ∀ s ∈ ordSub (2 ^ c.Members.length - 1), s < 2 ^ c.Members.length := fun s hs => nat_sub.2 (mem_ordSub.1 hs)
  have hol := ordSub_len hu
  have hfl := List.length_filter_le (splitB c) (ordSub (2 ^ c.Members.length - 1))
  obtain ⟨out, h1, h2⟩ := nleast_ok ((ordSub (2 ^ c.Members.length - 1)).filter (splitB c)) (by omega) fun s hs => by have := hm s (List.mem_filter.1 hs).1; omega
  refine ⟨out, ?_, h2.of (Mins.perm fun s => ?_)⟩
  · apply z1m_le
    rw [pmembers_ok hv.1]
    simp only [Option.bind_some]
    rw [psubsets_ok hu]
    simp only [Option.bind_some, List.length_map]
    exact sleast_l1 hv hm hol h1 _ [] rfl
  · rw [List.mem_filter, mem_pick, mem_ordSub, nat_sub]
theorem hleast_l1 {c : Config} (hv : ValidC c) {zs : List Nat} (hz : ∀ s ∈ zs, s < 2 ^ c.Members.length) (hzl : zs.length ≤ 1024) {r : List Int} (hr : z2h ((zs.filter (haltB c)).map Int.ofNat) = some r) : ∀ (suf pre : List Nat), zs = pre ++ suf →
    z1d ((pre.filter (haltB c)).map Int.ofNat) (zs.map Int.ofNat) ((zs.length : Nat) : Int) ((pre.length : Nat) : Int) c.Members = some r
  | [], pre, e => by
    have hd := drop_pre e
    rw [List.append_nil] at e
    apply z1d_le
    rw [ltB_end hd, ← e]
    simp only [cond_false]
    rw [hr]
    rfl
  | s :: suf, pre, e => by
    have hd := drop_pre e
    have hlt := lt_drop hd
    have hs := hz s (by rw [e]; simp)
    have hpre : zs = (pre ++ [s]) ++ suf := by rw [e]; simp
    have hlen : (pre ++ [s]).length = pre.length + 1 := by simp
    have ih := hleast_l1 hv hz hzl hr suf (pre ++ [s]) hpre
    rw [hlen, List.filter_append] at ih
    have hle := List.length_filter_le (haltB c) pre
    apply z1d_le
    rw [ltB_drop hd]
    simp only [cond_true, nth_drop (map_drop_cons hd)]
    rw [show Config.mk c.Members = c from rfl, phalts_ok hv hs, next_nat (by omega)]
    simp only [Option.bind_some]
    cases h : haltB c s with
    | true =>
      simp only [List.filter_cons, h, if_true, List.filter_nil, List.map_append] at ih
      simp only [cond_true]
      rw [capOk_true (by simp [maxElems]; omega)]
      exact ih
    | false =>
      simp only [List.filter_cons, h, Bool.false_eq_true, if_false, List.filter_nil, List.append_nil] at ih
      exact ih
theorem phleast_ok {c : Config} (hv : ValidC c) : ∃ out, z1n c = some (out.map Int.ofNat) ∧ LeastOf (pick (haltB c) (2 ^ c.Members.length)) out := by
  have hp := pow10 hv.1
  have hp1 := Nat.two_pow_pos c.Members.length
  have hu : 2 ^ c.Members.length - 1 < 1024 := by omega
  have hm : ∀ s ∈ ordSub (2 ^ c.Members.length - 1), s < 2 ^ c.Members.length := fun s hs => nat_sub.2 (mem_ordSub.1 hs)
  have hol := ordSub_len hu
  have hfl := List.length_filter_le (haltB c) (ordSub (2 ^ c.Members.length - 1))
  obtain ⟨out, h1, h2⟩ := nleast_ok ((ordSub (2 ^ c.Members.length - 1)).filter (haltB c)) (by omega) fun s hs => by have := hm s (List.mem_filter.1 hs).1; omega
  refine ⟨out, ?_, h2.of (Mins.perm fun s => ?_)⟩
  · apply z1n_le
    rw [pmembers_ok hv.1]
    simp only [Option.bind_some]
    rw [psubsets_ok hu]
    simp only [Option.bind_some, List.length_map]
    exact hleast_l1 hv hm hol h1 _ [] rfl
  · rw [List.mem_filter, mem_pick, mem_ordSub, nat_sub]
theorem pSplitting_ok {c : Config} (hv : ValidC c) (h7 : c.Members.length ≤ 7) : ∃ out, z2j c = some (out.map Int.ofNat, 0) ∧ LeastOf (pick (splitB c) (2 ^ c.Members.length)) out := by
  obtain ⟨out, h1, h2⟩ := psleast_ok hv
  refine ⟨out, ?_, h2⟩
  apply z2j_le
  have hsm : z2t c = some 0 := by
    apply z2t_le
    rw [pcerr_ok hv.small, hv.cerr]
    simp only [Option.bind_some, neB_self, cond_false]
    rw [ltB_false (by omega)]; rfl
  rw [hsm]
  simp only [Option.bind_some, neB_self, cond_false]
  rw [h1]; rfl
theorem pHalting_ok {c : Config} (hv : ValidC c) : ∃ out, z36 c = some (out.map Int.ofNat, 0) ∧ LeastOf (pick (haltB c) (2 ^ c.Members.length)) out := by
  obtain ⟨out, h1, h2⟩ := phleast_ok hv
  refine ⟨out, ?_, h2⟩
  apply z36_le
  rw [pcerr_ok hv.small, hv.cerr]
  simp only [Option.bind_some, neB_self, cond_false]
  rw [h1]; rfl
def tolr (n : Nat) : List Nat → Int
  | [] => (n : Int)
  | s :: _ => ((pc s : Nat) : Int) - 1
theorem pc_sub_one {s : Nat} (_h : s < 1024) : subI .i64 ((pc s : Nat) : Int) 1 = ((pc s : Nat) : Int) - 1 := by
  have := pc_le s
  rw [subI64 (by omega) (by omega)]
theorem ptol_ok {c : Config} {l : List Nat} (hl : ∀ s ∈ l, s < 1024) : z2l c (l.map Int.ofNat) = some (tolr c.Members.length l) := by
  apply z2l_le
  cases l with
  | nil => rfl
  | cons s r =>
    have hs := hl s (by simp)
    rw [List.length_map, eqB_nat]
    simp only [List.length_cons]
    rw [show ((r.length + 1 == 0) = false) by simp]
    simp only [cond_false]
    rw [nth_get (by omega) (show ((s :: r).map Int.ofNat)[((0 : Int)).toNat]? = some (s : Int) by simp), nsize_ok hs]
    simp only [Option.bind_some]
    rw [pc_sub_one hs]; rfl
theorem pTolerates_ok {c : Config} (hv : ValidC c) (h7 : c.Members.length ≤ 7) {a b : List Nat} (ha : LeastOf (pick (splitB c) (2 ^ c.Members.length)) a) (hb : LeastOf (pick (haltB c) (2 ^ c.Members.length)) b) :
    z2k c = some (tolr c.Members.length a, tolr c.Members.length b, 0) := by
  have hp := pow10 hv.1
  obtain ⟨a', g1, g2⟩ := psleast_ok hv
  obtain ⟨b', g3, g4⟩ := phleast_ok hv
  have := LeastOf.unique ha g2 fun _ => Iff.rfl
  subst this
  have := LeastOf.unique hb g4 fun _ => Iff.rfl
  subst this
  apply z2k_le
  have hsm : z2t c = some 0 := by
    apply z2t_le
    rw [pcerr_ok hv.small, hv.cerr]
    simp only [Option.bind_some, neB_self, cond_false]
    rw [ltB_false (by omega)]; rfl
  rw [hsm]
  simp only [Option.bind_some, neB_self, cond_false]
  rw [g1]
  simp only [Option.bind_some]
  rw [ptol_ok (ha.lt fun s hs => by have := (mem_pick.1 hs).1; omega)]
  simp only [Option.bind_some]
  rw [g3]
  simp only [Option.bind_some]
  rw [ptol_ok (hb.lt fun s hs => by have := (mem_pick.1 hs).1; omega)]
  rfl
end Go.Proofs.Ytfjcndlhpfbcgaa
