/- Drawn configurations: valid, and of nodes that they have. -/
import Derived.Test.YtfjcndlhpfbcgaaP16Make
namespace Go.Proofs.Ytfjcndlhpfbcgaa
open Go Go.Ab
theorem fresh_iff : ∀ (l : List Int) (s : Nat), fresh s l = true ↔ (∀ k ∈ l, inR k = true ∧ has s k = false) ∧ l.Nodup
  | [], s => by simp [fresh]
  | k :: r, s => by
    simp only [fresh, Bool.and_eq_true, Bool.not_eq_true', List.mem_cons, List.nodup_cons]
    constructor
    · rintro ⟨h1, h2, h3⟩
      obtain ⟨h4, h5⟩ := (fresh_iff r _).1 h3
      refine ⟨fun j hj => ?_, fun hk => ?_, h5⟩
      · rcases hj with rfl | hj
        · exact ⟨h1, h2⟩
        · obtain ⟨h6, h7⟩ := h4 j hj
          rw [has_or h1] at h7
          simp only [Bool.or_eq_false_iff] at h7
          exact ⟨h6, h7.1⟩
      · have := (h4 k hk).2
        rw [has_or h1] at this
        simp at this
    · rintro ⟨h1, h2, h3⟩
      obtain ⟨h4, h5⟩ := h1 k (.inl rfl)
      refine ⟨h4, h5, (fresh_iff r _).2 ⟨fun j hj => ?_, h3⟩⟩
      obtain ⟨h6, h7⟩ := h1 j (.inr hj)
      refine ⟨h6, ?_⟩
      rw [has_or h4, h7]
      have : j ≠ k := fun e => h2 (by rw [← e]; exact hj)
      simp [this]
theorem inR_below {m k : Int} (hm : m ≤ 10) (h : 0 ≤ k ∧ k < m) : inR k = true := by
  simp only [inR, Bool.and_eq_true, decide_eq_true_eq]; omega
theorem fresh_asc {m : Int} (hm : m ≤ 10) {l : List Int} (h : ∀ k ∈ l, 0 ≤ k ∧ k < m) (hs : l.Pairwise (· < ·)) : fresh 0 l = true :=
  (fresh_iff l 0).2 ⟨fun k hk => ⟨inR_below hm (h k hk), has_zero k⟩, hs.imp (fun h => by omega)⟩
theorem all_inR {m : Int} (hm : m ≤ 10) {l : List Int} (h : ∀ k ∈ l, 0 ≤ k ∧ k < m) : l.all inR = true := by
  rw [List.all_eq_true]; exact fun k hk => inR_below hm (h k hk)
theorem asc_len {m : Int} (h0 : 0 ≤ m) : ∀ {l : List Int}, (∀ k ∈ l, 0 ≤ k ∧ k < m) → l.Pairwise (· < ·) → (l.length : Int) ≤ m := by
  intro l h hs
  have key : ∀ (l : List Int) (b : Int), (∀ k ∈ l, b ≤ k ∧ k < m) → l.Pairwise (· < ·) → b ≤ m → (l.length : Int) ≤ m - b := by
    intro l
    induction l with
    | nil => intro b _ _ hb; simp; omega
    | cons x r ih =>
      intro b h hs hb
      rw [List.pairwise_cons] at hs
      have hx := h x (by simp)
      have := ih (x + 1) (fun k hk => ⟨by have := hs.1 k hk; omega, (h k (by simp [hk])).2⟩) hs.2 (by omega)
      simp only [List.length_cons]; omega
  have := key l 0 h hs h0
  omega
theorem valid_of {t : Trust} (h1 : depth t ≤ 4) (h2 : size t ≤ 200) (h3 : good t = true) : valid t = true := by
  simp only [valid, Bool.and_eq_true, decide_eq_true_eq]; exact ⟨h1, h2, h3⟩
theorem valid_flat {m thr : Int} (hm0 : 0 ≤ m) (hm : m ≤ 10) {l : List Int} (h : ∀ k ∈ l, 0 ≤ k ∧ k < m) (hs : l.Pairwise (· < ·)) (h1 : 1 ≤ thr) (h2 : thr ≤ (l.length : Int)) : valid ⟨thr, l, []⟩ = true := by
  have hl := asc_len hm0 h hs
  refine valid_of (by simp [depth, depths]) (by rw [size_mk]; simp [sizes]; omega) ?_
  rw [good_eq]
  simp only [Bool.and_eq_true, decide_eq_true_eq, fresh_asc hm h hs, all_inR hm h, goods, and_true]
  exact ⟨h1, by simpa using h2⟩
def Good (m : Int) (t : Trust) : Prop := valid t = true ∧ below m t = true
def Flat (m : Int) (x : Trust) : Prop := x.Inner = [] ∧ (∀ k ∈ x.Nodes, 0 ≤ k ∧ k < m) ∧ x.Nodes.Pairwise (· < ·) ∧ 1 ≤ x.Threshold ∧ x.Threshold ≤ (x.Nodes.length : Int)
theorem Flat.good {m : Int} (hm0 : 0 ≤ m) (hm : m ≤ 10) {x : Trust} (h : Flat m x) : Good m x := by
  obtain ⟨thr, nodes, inner⟩ := x
  obtain ⟨rfl, h1, h2, h3, h4⟩ := h
  exact ⟨valid_flat hm0 hm h1 h2 h3 h4, below_mk h1 rfl⟩
def blank : Trust := ⟨0, [], []⟩
def MemOk (m : Int) (x : Member) : Prop := if x.Declared then Good m x.Trust else x.Trust = blank
structure ConfOk (n : Nat) (c : Config) : Prop where
  pos : 1 ≤ c.Members.length
  le : c.Members.length ≤ n
  mem : ∀ x ∈ c.Members, MemOk (c.Members.length : Int) x
end Go.Proofs.Ytfjcndlhpfbcgaa
