/- Bent trusts and configurations, small ones, what is no set. -/
import Derived.Test.YtbmelgbadedbbaaGreatP14Quor
namespace Go.Proofs.YtbmelgbadedbbaaGreat
open Go Go.Ab
mutual
def wf : Trust → Bool
 | ⟨thr, _, inner⟩ => decide (thr < 9223372036854775808) && wfs inner
def wfs : List Trust → Bool
 | [] => true
 | x :: r => wf x && wfs r
end
theorem wf_eq (t : Trust) : wf t = (decide (t.Threshold < 9223372036854775808) && wfs t.Inner) := by cases t; simp only [wf]
theorem qtj {l : List Trust} (h : wfs l = true) : ∀ x ∈ l, wf x = true := by
 induction l with
 | nil => intro x hx; cases hx
 | cons y r ih =>
  simp only [wfs, Bool.and_eq_true] at h;intro x hx;rcases List.mem_cons.1 hx with rfl | hx
  ·exact h.1
  ·exact ih h.2 x hx
def Fits (t : Trust) : Prop := size t < 1073741824
theorem Fits.small {t : Trust} (h : Fits t) : Small t := by unfold Fits at h; unfold Small; omega
theorem Fits.mem {t x : Trust} (h : Fits t) (hx : x ∈ t.Inner) : Fits x := by
 unfold Fits at *; rw [q2f] at h; have := qq4 hx; omega
theorem y2f : ∀ t : Trust, Fits t → good t = true → wf t = true := by
 apply Trust.ind;intro t ih ht hg;have hsz : size t < 1073741824 := ht;rw [q2f] at hsz;rw [q8d] at hg;simp only [Bool.and_eq_true, decide_eq_true_eq] at hg;obtain ⟨g1, g2, g3, g4, g5⟩ := hg;rw [wf_eq];simp only [Bool.and_eq_true, decide_eq_true_eq];refine ⟨by omega, ?_⟩
 have hin : ∀ l : List Trust, (∀ x ∈ l, good x = true → wf x = true) → goods l = true → wfs l = true := by
  intro l;induction l with
  | nil => intro _ _; rfl
  | cons y r ihr =>
   intro h hgl;simp only [goods, Bool.and_eq_true] at hgl;simp only [wfs, h y (by simp) hgl.1, ihr (fun x hx => h x (by simp [hx])) hgl.2, Bool.and_self]
 exact hin t.Inner (fun x hx => ih x hx (ht.mem hx)) g5
theorem qhl {t : Trust} (h : valid t = true) : Fits t ∧ wf t = true := by
 simp only [valid, Bool.and_eq_true, decide_eq_true_eq] at h;have hf : Fits t := by unfold Fits; omega
 exact ⟨hf, y2f t hf h.2.2⟩
def TB (t : Trust) : Prop := size t < 1000000 ∧ wf t = true
def CB (c : Config) : Prop := c.Members.length < 1000000 ∧ ∀ m ∈ c.Members, TB m.Trust
theorem CB.small {c : Config} (h : CB c) : q0s c := ⟨by have := h.1; omega, fun m hm => by have := (h.2 m hm).1; unfold Small; omega⟩
theorem Member.eta (m : Member) : Member.mk m.Declared m.Trust = m := by cases m; rfl
theorem qhs {t : Trust} (h : valid t = true) : size t ≤ 200 := by
 simp only [valid, Bool.and_eq_true, decide_eq_true_eq] at h; exact h.2.1
theorem CB.of {c : Config} (h : c.Members.length < 900000 ∧ ∀ m ∈ c.Members, size m.Trust < 900000 ∧ wf m.Trust = true) : CB c :=
 ⟨by have := h.1; omega, fun m hm => ⟨by have := (h.2 m hm).1; omega, (h.2 m hm).2⟩⟩
end Go.Proofs.YtbmelgbadedbbaaGreat
