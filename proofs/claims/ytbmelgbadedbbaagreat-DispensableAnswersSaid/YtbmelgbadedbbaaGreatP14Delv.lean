/- Deletion: what is left is valid; its declared members, trusts and quorums. -/
import Derived.Test.YtbmelgbadedbbaaGreatP14Del
import Derived.Test.YtbmelgbadedbbaaGreatP14Errs
import Derived.Test.YtbmelgbadedbbaaGreatP14Flat
namespace Go.Proofs.YtbmelgbadedbbaaGreat
open Go Go.Ab
theorem qus {k : Int} {n : Nat} (h0 : 0 ≤ k) (h1 : k < (n : Int)) : bit k < 2 ^ n := Nat.pow_lt_pow_right (a := 2) (by decide) (by omega)
theorem q8d (q : Int → Bool) : ∀ l : List Int, Sub (usesN (l.filter q)) (usesN l)
 | [] => Sub.refl _
 | k :: r => by
  have ih := q8d q r;rw [List.filter_cons];split
  ·simp only [usesN];intro i hi;rw [Nat.testBit_or, Bool.or_eq_true] at hi ⊢;exact hi.imp id (ih i)
  ·exact ih.trans Sub.right
theorem qjs (s : Nat) : ∀ t : Trust, Sub (uses (less s t)) (uses t) := by
 apply Trust.ind;intro t ih;rw [q67, q67 t, q7j];have : ∀ l : List Trust, (∀ x ∈ l, Sub (uses (less s x)) (uses x)) → Sub (usesL (kept s l)) (usesL l) := by
  intro l;induction l with
  | nil => intro _; exact Sub.refl _
  | cons y r ihr =>
   intro hx;have h1 := ihr fun x hxr => hx x (by simp [hxr])
   simp only [kept];split
   ·exact h1.trans Sub.right
   ·simp only [usesL];exact ((hx y (by simp)).trans Sub.left).or (h1.trans Sub.right)
 exact ((q8d _ _).trans Sub.left).or ((this t.Inner ih).trans Sub.right)
theorem qxm {k n : Nat} (hk : k < n) (hn : n ≤ 10) (s : Nat) {t : Trust} (h : uses t < 2 ^ n) : uses (del (k : Int) s t) < 2 ^ n := by
 unfold del;split
 ·rw [q67];have hi : inR (k : Int) = true := by simp only [inR, Bool.and_eq_true, decide_eq_true_eq]; omega
  simp only [usesN, usesL, hi, if_true, Nat.or_zero];exact qus (by omega) (by omega)
 ·exact Nat.lt_of_le_of_lt (qfm (qjs s t)) h
theorem qqx (s : Nat) : ∀ (l : List Member) (k i : Nat), (delL s k l)[i]? = (l[i]?).map (delM s (k + i))
 | [], k, i => by simp [delL]
 | m :: r, k, i => by
  simp only [delL];cases i with
  | zero => simp
  | succ i => simp only [List.getElem?_cons_succ]; rw [qqx s r (k + 1) i, show k + 1 + i = k + (i + 1) by omega]
theorem qj3 (s : Nat) (c : Config) (i : Nat) : (delC s c).Members[i]? = (c.Members[i]?).map (delM s i) := by
 show (delL s 0 c.Members)[i]? = _;rw [qqx, Nat.zero_add]
theorem q3h {s i : Nat} {c : Config} : (decl (delC s c)).testBit i = true ↔ (decl c).testBit i = true ∧ s.testBit i = false := by
 rw [q2w, q2w, qj3];constructor
 ·rintro ⟨h1, m, h2, h3⟩;cases hm : c.Members[i]? with
  | none => rw [hm] at h2; cases h2
  | some m0 =>
   rw [hm] at h2;simp only [Option.map_some, Option.some.injEq] at h2;subst h2;unfold delM at h3;rw [q43 h1] at h3;cases hs : s.testBit i with
   | true => simp [hs] at h3
   | false =>
    cases hd : m0.Declared with
    | true => exact ⟨⟨h1, m0, rfl, hd⟩, rfl⟩
    | false => simp [hs, hd] at h3
 ·rintro ⟨⟨h1, m, h2, h3⟩, h4⟩;refine ⟨h1, delM s i m, by rw [h2]; rfl, ?_⟩
  unfold delM;rw [q43 h1, h4, h3];simp
theorem qz1 {s k : Nat} {c : Config} (h : (decl (delC s c)).testBit k = true) : tr (delC s c) k = del (k : Int) s (tr c k) := by
 obtain ⟨h1, h2⟩ := q3h.1 h;obtain ⟨hk, m, h3, h4⟩ := q2w.1 h1;unfold tr;rw [qj3, h3];simp only [Option.map_some, Option.getD_some];unfold delM;rw [q43 hk, h2, h4];simp
theorem y2q {z : Nat} {k : Int} (h : has z k = true) : sat z ⟨1, [k], []⟩ = true := by
 simp [q8b, cnt, sats, h]
theorem qnw {z g : Nat} : ndiff z g ||| g = z ||| g := by
 apply Nat.eq_of_testBit_eq;intro i;simp only [Nat.testBit_or, q07];cases z.testBit i <;> cases g.testBit i <;> rfl
theorem qwj {k : Int} {s z : Nat} {t : Trust} (h : has z k = true) : sat z (del k s t) = sat (z ||| s) t := by
 unfold del;split
 ·rename_i h0; rw [y2q h, qya h0]
 ·exact qqd s z t
theorem qhp {s y : Nat} {c : Config} (hy : y < 1024) (hys : ∀ i, y.testBit i = true → s.testBit i = false) :
  q23 (delC s c) y ↔ y ≠ 0 ∧ Sub y (decl c) ∧ ∀ k, y.testBit k = true → sat (y ||| s) (tr c k) = true := by
 unfold q23;have hsub : Sub y (decl (delC s c)) ↔ Sub y (decl c) :=
  ⟨fun h i hi => (q3h.1 (h i hi)).1, fun h i hi => q3h.2 ⟨h i hi, hys i hi⟩⟩
 rw [hsub];constructor
 ·rintro ⟨h0, h1, h2⟩;refine ⟨h0, h1, fun k hk => ?_⟩
  have := h2 k hk
  rwa [qz1 ((hsub.2 h1) k hk), qwj (by rw [q43 (q5p hy hk)]; exact hk)] at this
 ·rintro ⟨h0, h1, h2⟩;refine ⟨h0, h1, fun k hk => ?_⟩
  rw [qz1 ((hsub.2 h1) k hk), qwj (by rw [q43 (q5p hy hk)]; exact hk)]
  exact h2 k hk
theorem qpn (s : Nat) (c : Config) : (delC s c).Members.length = c.Members.length := qf2 s _ _
theorem q1w {c : Config} (s : Nat) (h : ValidC c) : ValidC (delC s c) := by
 have hlen := qpn s c;refine ⟨by rw [hlen]; exact h.1, fun x hx => ?_⟩
 obtain ⟨i, hi, rfl⟩ := List.mem_iff_getElem.1 hx;have hi' : i < c.Members.length := by omega
 have hg := qj3 s c i;rw [List.getElem?_eq_getElem hi, List.getElem?_eq_getElem hi'] at hg;simp only [Option.map_some, Option.some.injEq] at hg;rw [hg, hlen];have hm := h.2 c.Members[i] (List.getElem_mem hi');have hle := h.1;unfold delM;split
 ·rfl
 ·split
  ·rename_i hd;unfold MemV at hm;simp only [hd, if_true] at hm;exact ⟨qti (by simp only [inR, Bool.and_eq_true, decide_eq_true_eq]; omega) hm.1, qxm hi' hle s hm.2⟩
  ·exact hm
theorem ValidC.bears {c : Config} (h : ValidC c) : Bears c := ⟨by have := h.1; omega, fun m hm => by
 have hv := h.2 m hm;unfold MemV at hv;split at hv
 ·exact qcp hv.1
 ·rw [hv]; exact ⟨by simp [Fits, blank, size, sizes], by simp [blank, wf, wfs]⟩⟩
theorem Bears.small' {c : Config} (h : Bears c) : q0l c := ⟨by have := h.1; omega, fun m hm => (h.2 m hm).1.small⟩
theorem ValidC.small {c : Config} (h : ValidC c) : q0l c := h.bears.small'
end Go.Proofs.YtbmelgbadedbbaaGreat
