/- Deletion in configurations; deletion twice. -/
import Derived.Test.YtfemjbmfpnpjfaaDoorR1Same
namespace Go.Proofs.YtfemjbmfpnpjfaaDoor
open Go Go.Ab

theorem copied_ok : ∀ t : Trust, Fits t → deletion_copied t = some t := by
  apply Trust.ind
  intro t ih ht
  have hsz : size t < 1073741824 := ht
  rw [size_eq] at hsz
  have l1 : ∀ (suf : List Trust) (i : Nat) (acc : List Trust) (a8 : Int) (a10 : List Int) (a12 : List Trust) (a14 : Int) (a16 : List Int) (a18 : List Trust) (a20 : Int) (a22 : List Int), t.Inner.drop i = suf → acc.length ≤ i →
      deletion_copied_l1 t.Inner ((t.Inner.length : Nat) : Int) (i : Int) a8 a10 a12 a14 a16 a18 a20 a22 acc = some ⟨a20, a22, acc ++ suf⟩ := by
    intro suf
    induction suf with
    | nil =>
      intro i acc a8 a10 a12 a14 a16 a18 a20 a22 h ha
      apply deletion_copied_l1_le
      simp only [ltB_end h, cond_false, List.append_nil]
    | cons y suf ihs =>
      intro i acc a8 a10 a12 a14 a16 a18 a20 a22 h ha
      have hlt := lt_drop h
      have hy : y ∈ t.Inner := List.mem_of_mem_drop (by rw [h]; exact List.mem_cons_self)
      apply deletion_copied_l1_le
      simp only [ltB_drop h, cond_true, nth_drop h, ih y hy (ht.mem hy), Option.bind_some, next_nat (show i < 4611686018427387904 by omega), Trust.eta]
      rw [capOk_true (by simp [maxElems]; omega), ihs (i + 1) (acc ++ [y]) _ _ _ _ _ _ _ _ (drop_next h) (by simp; omega)]
      simp
  apply deletion_copied_le
  rw [capOk_true (by simp [maxElems]; omega), show (0 : Int) = ((0 : Nat) : Int) from rfl, l1 t.Inner 0 [] _ _ _ _ _ _ _ _ rfl (Nat.le_refl _)]
  simp

/-- A trust after deletion, at a node. -/
def del (k : Int) (s : Nat) (t : Trust) : Trust := if (less s t).Threshold = 0 then ⟨1, [k], []⟩ else less s t
/-- A member after deletion. -/
def delM (s : Nat) (k : Nat) (m : Member) : Member := if has s (k : Int) then ⟨false, blank⟩ else if m.Declared then ⟨true, del k s m.Trust⟩ else m
def delL (s : Nat) : Nat → List Member → List Member
  | _, [] => []
  | k, m :: r => delM s k m :: delL s (k + 1) r
def delC (s : Nat) (c : Config) : Config := ⟨delL s 0 c.Members⟩
/-- What the machine can bear. -/
def Bears (c : Config) : Prop := c.Members.length < 1073741824 ∧ ∀ m ∈ c.Members, Fits m.Trust ∧ wf m.Trust = true

theorem delete_ok {s : Nat} (hs : s < 1024) (c : Config) (hc : Bears c) : deletion_Delete c (s : Int) = some (delC s c) := by
  obtain ⟨hl, hb⟩ := hc
  have l1 : ∀ (suf : List Member) (i : Nat) (acc a10 a12 : List Member), c.Members.drop i = suf → acc.length ≤ i →
      deletion_Delete_l1 (s : Int) c.Members ((c.Members.length : Nat) : Int) (i : Int) a10 a12 acc = some ⟨acc ++ delL s i suf⟩ := by
    intro suf
    induction suf with
    | nil =>
      intro i acc a10 a12 h ha
      apply deletion_Delete_l1_le
      simp only [ltB_end h, cond_false, delL, List.append_nil]
    | cons y suf ihs =>
      intro i acc a10 a12 h ha
      have hlt := lt_drop h
      obtain ⟨hf, hw⟩ := hb y (List.mem_of_mem_drop (by rw [h]; exact List.mem_cons_self))
      have step : deletion_Delete_l1 (s : Int) c.Members ((c.Members.length : Nat) : Int) ((i + 1 : Nat) : Int) a10 a12 (acc ++ [delM s i y]) = some ⟨acc ++ delL s i (y :: suf)⟩ := by
        rw [ihs (i + 1) _ _ _ (drop_next h) (by simp; omega)]
        simp [delL]
      apply deletion_Delete_l1_le
      simp only [ltB_drop h, cond_true, nth_drop h, nodeset_Has_ok hs, Option.bind_some, next_nat (show i < 4611686018427387904 by omega)]
      cases hh : has s (i : Int) with
      | true =>
        simp only [cond_true]
        rw [capOk_true (by simp [maxElems]; omega), ← step]
        simp [delM, hh, blank]
      | false =>
        cases hd : y.Declared with
        | true =>
          simp only [cond_true, cond_false, del_ok hs y.Trust hf hw, Option.bind_some, Trust.eta]
          rw [capOk_true (by simp [maxElems]; omega), ← step]
          simp [delM, hh, hd, del]
        | false =>
          simp only [cond_false, copied_ok y.Trust hf, Option.bind_some, Trust.eta]
          rw [capOk_true (by simp [maxElems]; omega), ← step]
          have : y = ⟨false, y.Trust⟩ := by cases y; simp only at hd; rw [hd]
          simp [delM, hh, hd]
          rw [this]
  apply deletion_Delete_le
  rw [show (0 : Int) = ((0 : Nat) : Int) from rfl, l1 c.Members 0 [] _ _ rfl (Nat.le_refl _)]
  simp [delC]

/-! ### The plain law -/
theorem less_less (a b : Nat) : ∀ t : Trust, less b (less a t) = less (a ||| b) t := by
  apply Trust.ind
  intro t ih
  have hin : ∀ l : List Trust, (∀ x ∈ l, less b (less a x) = less (a ||| b) x) → gone (a ||| b) l = gone a l + gone b (kept a l) ∧ kept b (kept a l) = kept (a ||| b) l := by
    intro l
    induction l with
    | nil => intro _; exact ⟨rfl, rfl⟩
    | cons y r ihr =>
      intro h
      obtain ⟨h1, h2⟩ := ihr (fun x hx => h x (by simp [hx]))
      have hy := h y (by simp)
      by_cases hz : (less a y).Threshold = 0
      · have hz2 : (less (a ||| b) y).Threshold = 0 := by
          rw [← hy, less_eq b (less a y), hz]; simp only; omega
        simp only [gone, kept, hz, hz2, if_true, h1]
        exact ⟨by omega, h2⟩
      · by_cases hz2 : (less (a ||| b) y).Threshold = 0
        · simp only [gone, kept, hz, hz2, if_true, if_false, hy, h1]
          exact ⟨by omega, h2⟩
        · simp only [gone, kept, hz, hz2, if_false, hy, h1, h2]
          exact ⟨by omega, trivial⟩
  obtain ⟨h1, h2⟩ := hin t.Inner ih
  rw [less_eq b (less a t), less_eq (a ||| b) t, less_eq a t]
  simp only [h2, h1]
  have hf : List.filter (fun k => !has b k) (List.filter (fun k => !has a k) t.Nodes) = List.filter (fun k => !has (a ||| b) k) t.Nodes := by
    rw [List.filter_filter]
    congr 1
    funext k
    rw [has_union]
    cases has a k <;> cases has b k <;> rfl
  have hc : cnt (a ||| b) t.Nodes = cnt a t.Nodes + cnt b (List.filter (fun k => !has a k) t.Nodes) := by
    rw [Nat.or_comm]; exact cnt_union a b t.Nodes
  rw [hf, hc]
  congr 1
  omega
theorem less_one {k : Int} {b : Nat} (h : has b k = false) : less b ⟨1, [k], []⟩ = ⟨1, [k], []⟩ := by
  rw [less_eq]; simp [cnt, h, gone, kept]; rfl
theorem del_del {k : Int} {a b : Nat} (h : has b k = false) (t : Trust) : del k b (del k a t) = del k (a ||| b) t := by
  unfold del
  by_cases hz : (less a t).Threshold = 0
  · have hz2 : (less (a ||| b) t).Threshold = 0 := by rw [← less_less, less_eq b (less a t), hz]; simp only; omega
    rw [if_pos hz, if_pos hz2, less_one h]; simp
  · rw [if_neg hz, less_less]
theorem delL_delL (a b : Nat) : ∀ (l : List Member) (k : Nat), (∀ m ∈ l, m.Declared = false → m.Trust = blank) → delL b k (delL a k l) = delL (a ||| b) k l
  | [], _, _ => rfl
  | m :: r, k, h => by
    simp only [delL]
    rw [delL_delL a b r (k + 1) (fun x hx => h x (by simp [hx]))]
    congr 1
    have hm := h m (by simp)
    unfold delM
    rw [has_union]
    cases h1 : has a (k : Int) with
    | true =>
      simp only [if_true, Bool.true_or]
      split <;> simp
    | false =>
      cases h2 : has b (k : Int) with
      | true => simp
      | false =>
        cases hd : m.Declared with
        | true => simp [del_del h2]
        | false => simp [hd]
theorem less_zero : ∀ t : Trust, good t = true → less 0 t = t := by
  apply Trust.ind
  intro t ih hg
  rw [good_eq] at hg
  simp only [Bool.and_eq_true, decide_eq_true_eq] at hg
  obtain ⟨h1, _, _, _, h5⟩ := hg
  have hin : ∀ l : List Trust, goods l = true → (∀ x ∈ l, good x = true → less 0 x = x) → gone 0 l = 0 ∧ kept 0 l = l := by
    intro l
    induction l with
    | nil => intro _ _; exact ⟨rfl, rfl⟩
    | cons y r ihr =>
      intro hgl h
      simp only [goods, Bool.and_eq_true] at hgl
      obtain ⟨i1, i2⟩ := ihr hgl.2 (fun x hx => h x (by simp [hx]))
      have hy := h y (by simp) hgl.1
      have hp : 1 ≤ y.Threshold := by
        have := hgl.1; rw [good_eq] at this; simp only [Bool.and_eq_true, decide_eq_true_eq] at this; exact this.1
      simp only [gone, kept, hy, show y.Threshold ≠ 0 by omega, if_false, i1, i2]
      exact ⟨trivial, trivial⟩
  obtain ⟨i1, i2⟩ := hin t.Inner h5 ih
  have hc : cnt 0 t.Nodes = 0 := by
    unfold cnt; rw [List.countP_eq_zero]; intro k _; rw [has_zero]; simp
  have hf : List.filter (fun k => !has 0 k) t.Nodes = t.Nodes := by
    rw [List.filter_eq_self]; intro k _; rw [has_zero]; rfl
  rw [less_eq, i1, i2, hc, hf, show max 0 (max 0 t.Threshold - ((0 + 0 : Nat) : Int)) = t.Threshold by simp; omega, Trust.eta]
theorem delL_zero : ∀ (l : List Member) (k : Nat), (∀ m ∈ l, m.Declared = true → good m.Trust = true) → delL 0 k l = l
  | [], _, _ => rfl
  | m :: r, k, h => by
    simp only [delL]
    rw [delL_zero r (k + 1) (fun x hx => h x (by simp [hx]))]
    congr 1
    unfold delM
    rw [has_zero]
    cases hd : m.Declared with
    | false => simp
    | true =>
      have hg := h m (by simp) hd
      have hp : 1 ≤ m.Trust.Threshold := by
        have := hg; rw [good_eq] at this; simp only [Bool.and_eq_true, decide_eq_true_eq] at this; exact this.1
      simp only [if_true, del, less_zero _ hg, show m.Trust.Threshold ≠ 0 by omega, if_false, Bool.false_eq_true]
      cases m; simp only at hd; rw [hd]

theorem MemOk.fits {m : Int} {x : Member} (h : MemOk m x) : Fits x.Trust ∧ wf x.Trust = true := by
  unfold MemOk at h
  split at h
  · exact valid_fits h.1
  · rw [h]; exact ⟨by simp [Fits, blank, size, sizes], rfl⟩
theorem ConfOk.bears {n : Nat} {c : Config} (h : ConfOk n c) (hn : n ≤ 10) : Bears c := ⟨by have := h.le; omega, fun m hm => (h.mem m hm).fits⟩
theorem ConfOk.blank {n : Nat} {c : Config} (h : ConfOk n c) : ∀ m ∈ c.Members, m.Declared = false → m.Trust = blank := fun m hm hd => by
  have := h.mem m hm; unfold MemOk at this; simpa [hd] using this
theorem ConfOk.good {n : Nat} {c : Config} (h : ConfOk n c) : ∀ m ∈ c.Members, m.Declared = true → Good (c.Members.length : Int) m.Trust := fun m hm hd => by
  have := h.mem m hm; unfold MemOk at this; simpa [hd] using this
theorem delL_length (s : Nat) : ∀ (l : List Member) (k : Nat), (delL s k l).length = l.length
  | [], _ => rfl
  | m :: r, k => by simp only [delL, List.length_cons, delL_length s r (k + 1)]
theorem valid_good {t : Trust} (h : valid t = true) : good t = true := by
  simp only [valid, Bool.and_eq_true] at h; exact h.2.2
theorem del_valid {k : Int} (hk : inR k = true) {s : Nat} {t : Trust} (h : valid t = true) : valid (del k s t) = true := by
  unfold del
  split
  · exact valid_one hk
  · rename_i hz; exact less_valid s t h hz
theorem del_bears {s n : Nat} {c : Config} (h : ConfOk n c) (hn : n ≤ 10) : Bears (delC s c) := by
  refine ⟨by show (delL s 0 c.Members).length < _; rw [delL_length]; have := h.le; omega, ?_⟩
  have key : ∀ (l : List Member) (k : Nat), k + l.length ≤ 10 → (∀ m ∈ l, MemOk (c.Members.length : Int) m) → ∀ m ∈ delL s k l, Fits m.Trust ∧ wf m.Trust = true := by
    intro l
    induction l with
    | nil => intro k _ _ m hm; cases hm
    | cons y r ih =>
      intro k hk hl m hm
      simp only [List.length_cons] at hk
      simp only [delL, List.mem_cons] at hm
      rcases hm with rfl | hm
      · have hy := hl y (by simp)
        unfold delM
        split
        · exact ⟨by simp [Fits, Go.Proofs.YtfemjbmfpnpjfaaDoor.blank, size, sizes], rfl⟩
        · split
          · rename_i hd
            unfold MemOk at hy
            simp only [hd, if_true] at hy
            exact valid_fits (del_valid (by simp only [inR, Bool.and_eq_true, decide_eq_true_eq]; omega) hy.1)
          · exact hy.fits
      · exact ih (k + 1) (by omega) (fun x hx => hl x (by simp [hx])) m hm
  exact key c.Members 0 (by have := h.le; omega) h.mem

theorem twice_law (haw : law13_awake = some true) (t : List Int) : law13_DeletionTwice t = some true := by
  obtain ⟨l, a1, a2⟩ := New_ok t
  obtain ⟨c, j, b1, b2, b3⟩ := Config_ok (n := 10) (by decide) (by decide) a2
  obtain ⟨va, j1, c1, c2, c3, c4⟩ := N_ok (n := 1024) (by decide) (by decide) b3
  obtain ⟨vb, j2, d1, d2, d3, d4⟩ := N_ok (n := 1024) (by decide) (by decide) c4
  obtain ⟨x, rfl⟩ := Int.eq_ofNat_of_zero_le c2
  obtain ⟨y, rfl⟩ := Int.eq_ofNat_of_zero_le d2
  have hx : x < 1024 := by omega
  have hy : y < 1024 := by omega
  have hxy : x ||| y < 1024 := Nat.or_lt_two_pow (n := 10) hx hy
  have hb := b2.bears (by decide)
  have h1 : delC y (delC x c) = delC (x ||| y) c := by simp only [delC, delL_delL x y c.Members 0 b2.blank]
  have h2 : delC x (delC y c) = delC (x ||| y) c := by simp only [delC, delL_delL y x c.Members 0 b2.blank, Nat.or_comm]
  have h3 : delC 0 c = c := by simp only [delC, delL_zero c.Members 0 (fun m hm hd => valid_good (b2.good m hm hd).1)]
  have hsm : ∀ s, ∀ m ∈ (delC s c).Members, Small m.Trust := fun s m hm => ((del_bears (s := s) b2 (by decide)).2 m hm).1.small
  have hlen : ∀ s, (delC s c).Members.length < 1152921504606846976 := fun s => by have := (del_bears (s := s) b2 (by decide)).1; omega
  have same : ∀ s, ref06_Same (delC s c) (delC s c) = some true := by
    intro s
    obtain ⟨r, e1, e2⟩ := same_conf (delC s c) (delC s c) (hlen s) (hsm s)
    rw [e1, e2.2 rfl]
  have same0 : ref06_Same c c = some true := by have := same 0; rwa [h3] at this
  apply law13_DeletionTwice_le
  rw [a1]
  simp only [Option.bind_some]
  rw [show (10 : Int) = ((10 : Nat) : Int) from rfl, b1]
  simp only [Option.bind_some]
  rw [c1]
  simp only [Option.bind_some]
  rw [d1]
  simp only [Option.bind_some]
  rw [orI_nat (by omega) (by omega)]
  have z := delete_ok (s := 0) (by decide) c hb
  simp only [Int.natCast_zero] at z
  simp only [delete_ok hx c hb, delete_ok hy c hb, delete_ok hxy c hb, delete_ok hy _ (del_bears (s := x) b2 (by decide)), delete_ok hx _ (del_bears (s := y) b2 (by decide)), z, Option.bind_some, h1, h2, h3, same, same0, cond_true, haw]
end Go.Proofs.YtfemjbmfpnpjfaaDoor
