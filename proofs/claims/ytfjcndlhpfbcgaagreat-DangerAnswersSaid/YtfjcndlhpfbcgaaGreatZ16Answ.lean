/- DangerAnswers: the law, on the machine. -/
import Derived.Test.YtfjcndlhpfbcgaaGreatZ16Law16
namespace Go.Proofs.YtfjcndlhpfbcgaaGreat
open Go Go.Ab Go.Sort
theorem qrt {y : Config} (hy : q13 y) {a0 : Int} {a5 : List Config} {a7 a9 : Int} {a17 a23 : List Member} {tl : List Int} {ti : Int} (K : z1p a0 a5 a7 (addI .i64 a9 1) a17 tl ti a23 = some true) {zs : List Int} (hz : zs.length ≤ 100) : ∀ (suf : List Int) (i : Nat), zs.drop i = suf →
    z27 a0 a5 a7 a9 zs ((zs.length : Nat) : Int) (i : Int) a17 tl ti a23 y.Members = some true
  | [], i, h => by
    obtain ⟨l, e, s1, s2, s3, _⟩ := q9x hy
    obtain ⟨m, g, h1, h2, h3, _⟩ := qdz hy
    obtain ⟨r, t1, t2⟩ := qgp hy
    apply qzp
    rw [q0l h, show Config.mk y.Members = y from rfl]
    simp only [cond_false]
    rw [s1]
    simp only [Option.bind_some]
    rw [s2]
    simp only [Option.bind_some]
    rw [h1]
    simp only [Option.bind_some]
    rw [h2]
    simp only [Option.bind_some]
    rw [t1]
    simp only [Option.bind_some]
    rw [t2]
    simp only [Option.bind_some, q0h, cond_false]
    rw [q6y (by simp; omega), decide_eq_true rfl]
    simp only [Option.bind_some, Bool.not_true, cond_false]
    rw [q6y (by simp; omega), decide_eq_true rfl]
    simp only [Option.bind_some, Bool.not_true, cond_false]
    exact K
  | z :: suf, i, h => by
    have hlt := q0k h
    have ih := qrt hy K hz suf (i + 1) (q08 h)
    apply qzp
    rw [q0e h]
    simp only [cond_true, q0d h]
    rw [show Config.mk y.Members = y from rfl, qh5 hy, qhq hy, qlj hy, qfd hy, qph hy, qva hy]
    simp only [Option.bind_some, q0h, cond_false, beq_self_eq_true, Bool.not_true]
    rw [q04 (by omega)]
    exact ih
theorem qup {a0 : Int} {ys : List Config} (hl : ys.length ≤ 100) (hs : ∀ y ∈ ys, q13 y) {c : Config} (hc : ConfOk 6 c) {a10 : List Member} {tl : List Int} : ∀ (suf : List Config) (i : Nat) (ti : Int), ys.drop i = suf → q0v tl ti →
    z1p a0 ys ((ys.length : Nat) : Int) (i : Int) a10 tl ti c.Members = some true
  | [], i, ti, h, ht => by
    apply qxf
    rw [q0l h, q5e]; rfl
  | y :: suf, i, ti, h, ht => by
    have hlt := q0k h
    obtain ⟨v, j, g1, g2, g3⟩ := qzx hc (by decide) ht
    obtain ⟨w, j2, k1, k2, k3, k4⟩ := N_ok (n := 64) (by decide) (by decide) g3
    have ih := qup (a0 := a0) (a10 := a10) hl hs hc suf (i + 1) j2 (q08 h) k4
    apply qxf
    rw [q0e h]
    simp only [cond_true, q0d h]
    rw [show Config.mk c.Members = c from rfl, g1]
    simp only [Option.bind_some]
    rw [k1]
    simp only [Option.bind_some]
    exact qrt (hs y (List.mem_of_mem_drop (by rw [h]; simp))) (by rw [q04 (by omega)]; exact ih) (zs := [a0, (v : Int), w]) (by simp) _ 0 rfl
theorem qna (t : List Int) (r : Config) (x : Int) (hr : ∀ m ∈ r.Members, raw m.Trust = true) : law16_DangerAnswers t r x = some true := by
  obtain ⟨b, s1, s2⟩ := qui hr
  apply law16_DangerAnswers_le
  rw [s1]
  cases b with
  | false => simp only [Option.bind_some, Bool.not_false, cond_true, q5e]
  | true =>
    simp only [Option.bind_some, Bool.not_true, cond_false]
    obtain ⟨tl, a1, a2⟩ := qts t
    obtain ⟨c, j, b1, b2, b3⟩ := qex (n := 6) (by decide) (by decide) a2
    have hcb := b2.CB' (by decide)
    obtain ⟨d, j2, d1, d2, d3⟩ := qwp hcb.1 hcb.2 b3
    rw [a1]
    simp only [Option.bind_some]
    rw [show (6 : Int) = ((6 : Nat) : Int) from rfl, b1]
    simp only [Option.bind_some]
    rw [d1]
    simp only [Option.bind_some]
    refine qup (by simp) (fun w hw => ?_) b2 _ 0 j2 rfl d3
    simp only [List.mem_cons, List.not_mem_nil, or_false] at hw
    rcases hw with rfl | rfl | rfl
    · exact (CB.of hcb).small
    · exact d2.small
    · obtain ⟨g1, g2⟩ := s2 rfl
      exact ⟨by show r.Members.length < _; omega, fun m hm => by have := g2 m hm; unfold Small; omega⟩
end Go.Proofs.YtfjcndlhpfbcgaaGreat
