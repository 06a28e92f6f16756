/- Deletion: the program and the reference, of any trust and configuration. -/
import Derived.Test.YtbmelgbadedbbaaGreatP14Bent
import Derived.Test.YtbmelgbadedbbaaGreatP14Same
import Derived.Test.YtbmelgbadedbbaaGreatP14Prog
namespace Go.Proofs.YtbmelgbadedbbaaGreat
open Go Go.Ab
mutual
def less (s : Nat) : Trust → Trust
 | ⟨thr, nodes, inner⟩ => ⟨max 0 (max 0 thr - ((cnt s nodes + gone s inner : Nat) : Int)), nodes.filter (fun k => !has s k), kept s inner⟩
def gone (s : Nat) : List Trust → Nat
 | [] => 0
 | x :: r => (if (less s x).Threshold = 0 then 1 else 0) + gone s r
def kept (s : Nat) : List Trust → List Trust
 | [] => []
 | x :: r => if (less s x).Threshold = 0 then kept s r else less s x :: kept s r
end
theorem q7j (s : Nat) (t : Trust) : less s t = ⟨max 0 (max 0 t.Threshold - ((cnt s t.Nodes + gone s t.Inner : Nat) : Int)), t.Nodes.filter (fun k => !has s k), kept s t.Inner⟩ := by cases t; simp only [less]
theorem qic {n : Int} (h0 : 0 ≤ n) (h1 : n < 9223372036854775808) : z4h n 1 = some (max 0 (n - 1)) := by
 apply y6k;rw [q22 (by split <;> omega) (by split <;> omega)]
 congr 1
 split <;> omega
theorem qk4 {s : Nat} (hs : s < 1024) (xs : List Int) (hl : xs.length < 1073741824) (a11 : Int) (a13 : List Int) (a15 : List Trust) (a17 : Int) (a19 : List Int) (a21 a27 : List Trust) :
  ∀ (suf : List Int) (i : Nat) (c : Int) (acc : List Int), xs.drop i = suf → 0 ≤ c → c < 9223372036854775808 → acc.length ≤ i →
  Le (z21 (s : Int) a15 ((a15.length : Nat) : Int) 0 a11 a13 a15 a17 a19 a21 (max 0 (c - (cnt s suf : Nat))) (acc ++ suf.filter (fun k => !has s k)) a27) (z2k (s : Int) xs ((xs.length : Nat) : Int) (i : Int) a11 a13 a15 a17 a19 a21 c acc a27)
 | [], i, c, acc, h, h0, h1, ha => fun r hr => by
  apply y05;simp only [q0j h, cond_false];rw [← hr]; congr 1
  ·simp [cnt]; omega
  ·simp
 | y :: suf, i, c, acc, h, h0, h1, ha => fun r hr => by
  have hlt := q0i h;apply y05;simp only [q0a h, cond_true, q08 h, q26 hs, Option.bind_some, q02 (show i < 4611686018427387904 by omega)]
  cases hy : has s y with
  | true =>
   simp only [cond_true, qic h0 h1, Option.bind_some];refine qk4 hs xs hl a11 a13 a15 a17 a19 a21 a27 suf (i + 1) (max 0 (c - 1)) acc (q04 h) (by omega) (by omega) (by omega) r ?_
   rw [← hr]; congr 1
   ·simp only [cnt, List.countP_cons, hy, if_true]; omega
   ·simp [hy]
  | false =>
   simp only [cond_false];rw [q06 (by simp [q0f]; omega)]
   refine qk4 hs xs hl a11 a13 a15 a17 a19 a21 a27 suf (i + 1) c (acc ++ [y]) (q04 h) h0 h1 (by simp; omega) r ?_
   rw [← hr]; congr 1
   ·simp [cnt, hy]
   ·simp [hy]
theorem qye {s : Nat} (hs : s < 1024) : ∀ t : Trust, Fits t → wf t = true → z52 t (s : Int) = some (less s t) := by
 apply Trust.ind;intro t ih ht hw;have hsz : size t < 1073741824 := ht;rw [q1a] at hsz;rw [wf_eq, Bool.and_eq_true, decide_eq_true_eq] at hw;have l2 : ∀ (suf : List Trust) (i : Nat) (c : Int) (nodes : List Int) (acc : List Trust) (a17 : Int) (a19 : List Int) (a21 : List Trust), t.Inner.drop i = suf → 0 ≤ c → c < 9223372036854775808 → acc.length ≤ i →
   z21 (s : Int) t.Inner ((t.Inner.length : Nat) : Int) (i : Int) t.Threshold t.Nodes t.Inner a17 a19 a21 c nodes acc = some ⟨max 0 (c - (gone s suf : Nat)), nodes, acc ++ kept s suf⟩ := by
  intro suf;induction suf with
  | nil =>
   intro i c nodes acc a17 a19 a21 h h0 h1 ha;apply y0l;simp only [q0j h, cond_false, kept, List.append_nil, gone];congr 2; omega
  | cons y suf ihs =>
   intro i c nodes acc a17 a19 a21 h h0 h1 ha;have hlt := q0i h;have hy : y ∈ t.Inner := List.mem_of_mem_drop (by rw [h]; exact List.mem_cons_self)
   apply y0l;simp only [q0a h, cond_true, q08 h, ih y hy (ht.mem hy) (qni hw.2 y hy), Option.bind_some, q02 (show i < 4611686018427387904 by omega), Trust.eta]
   by_cases hz : (less s y).Threshold = 0
   ·simp only [hz, q0p, cond_true, qic h0 h1, Option.bind_some];rw [ihs (i + 1) (max 0 (c - 1)) nodes acc a17 a19 a21 (q04 h) (by omega) (by omega) (by omega)]
    simp only [kept, hz, if_true, gone];congr 2; omega
   ·simp only [q0t hz, cond_false];rw [q06 (by simp [q0f]; omega)]
    rw [ihs (i + 1) c nodes (acc ++ [less s y]) a17 a19 a21 (q04 h) h0 h1 (by simp; omega)]
    simp only [kept, hz, if_false, gone, Nat.zero_add, List.append_assoc, List.cons_append, List.nil_append]
 apply y7v;have hthr : (if 0 > t.Threshold then 0 else t.Threshold) = max 0 t.Threshold := by split <;> omega
 rw [hthr];refine qk4 hs t.Nodes (by omega) _ _ _ _ _ _ _ t.Nodes 0 (max 0 t.Threshold) [] rfl (by omega) (by omega) (Nat.le_refl _) _ ?_
 rw [show (0 : Int) = ((0 : Nat) : Int) from rfl, l2 t.Inner 0 _ _ _ _ _ _ rfl (by omega) (by omega) (Nat.le_refl _), q7j]
 congr 2
 omega
theorem y5y {s : Nat} (hs : s < 1024) (t : Trust) (ht : Fits t) (hw : wf t = true) (k : Int) : z5m t k (s : Int) = some (if (less s t).Threshold = 0 then ⟨1, [k], []⟩ else less s t) := by
 apply y66;simp only [q4u hs, Option.bind_some, Bool.not_true, cond_false, qye hs t ht hw];by_cases hz : (less s t).Threshold = 0
 ·simp only [hz, q0p, cond_true, if_true]
 ·simp only [q0t hz, cond_false, hz, if_false, Trust.eta]
theorem qlu (s z : Nat) : ∀ l : List Int, cnt (z ||| s) l = cnt s l + cnt z (l.filter (fun k => !has s k))
 | [] => rfl
 | y :: r => by
  have ih := qlu s z r;simp only [cnt] at ih ⊢;rw [List.countP_cons, List.countP_cons, List.filter_cons, qg1, ih];cases h1 : has s y <;> cases h2 : has z y <;> simp [h2] <;> omega
theorem qqd (s z : Nat) : ∀ t : Trust, sat z (less s t) = sat (z ||| s) t := by
 apply Trust.ind;intro t ih;have hin : ∀ l : List Trust, (∀ x ∈ l, sat z (less s x) = sat (z ||| s) x) → sats (z ||| s) l = gone s l + sats z (kept s l) := by
  intro l;induction l with
  | nil => intro _; rfl
  | cons y r ihr =>
   intro h;have h1 := h y (by simp)
   have h2 := ihr (fun x hx => h x (by simp [hx]))
   simp only [sats, gone, kept, h2];by_cases hz : (less s y).Threshold = 0
   ·have : sat (z ||| s) y = true := by rw [← h1, q8b, hz]; simp; omega
    simp only [this, hz, if_true]; omega
   ·simp only [hz, if_false, sats, h1]; omega
 rw [q8b, q8b, q7j, qlu s z, hin t.Inner ih];congr 1
 simp only [eq_iff_iff];omega
theorem qya {s z : Nat} {t : Trust} (h : (less s t).Threshold = 0) : sat (z ||| s) t = true := by
 rw [← qqd, q8b, h]; simp; omega
theorem qcu {s s' : Nat} (h : ∀ k, has s' k = true → has s k = true) : ∀ l : List Int, fresh s l = true → ∀ q : Int → Bool, fresh s' (l.filter q) = true
 | [], _, _ => rfl
 | y :: r, hf, q => by
  simp only [fresh, Bool.and_eq_true, Bool.not_eq_true'] at hf;obtain ⟨h1, h2, h3⟩ := hf;have hmono : ∀ (a b : Nat), (∀ k, has a k = true → has b k = true) → ∀ k, has (a ||| bit y) k = true → has (b ||| bit y) k = true := by
   intro a b hab k hk;rw [qks h1] at hk ⊢;cases ha : has a k with
   | true => rw [hab k ha]; rfl
   | false => rw [ha] at hk; simp only [Bool.false_or] at hk; rw [hk]; simp
  rw [List.filter_cons];split
  ·simp only [fresh, h1, Bool.true_and];have h4 : has s' y = false := by
    cases hh : has s' y with
    | true => rw [h y hh] at h2; cases h2
    | false => rfl
   rw [h4];simp only [Bool.not_false, Bool.true_and];exact qcu (hmono s' s h) r h3 q
  ·exact qcu (fun k hk => by rw [qks h1, h k hk]; rfl) r h3 q
theorem qu5 (s : Nat) : ∀ t : Trust, good t = true → (less s t).Threshold ≠ 0 → good (less s t) = true := by
 apply Trust.ind;intro t ih hg hz;have hin : ∀ l : List Trust, (∀ x ∈ l, good x = true → (less s x).Threshold ≠ 0 → good (less s x) = true) → goods l = true → goods (kept s l) = true ∧ (kept s l).length + gone s l = l.length := by
  intro l;induction l with
  | nil => intro _ _; exact ⟨rfl, rfl⟩
  | cons y r ihr =>
   intro h hgl;simp only [goods, Bool.and_eq_true] at hgl;obtain ⟨h1, h2⟩ := ihr (fun x hx => h x (by simp [hx])) hgl.2
   simp only [kept, gone];by_cases hy : (less s y).Threshold = 0
   ·simp only [hy, if_true, h1, List.length_cons]; exact ⟨trivial, by omega⟩
   ·simp only [hy, if_false, goods, h y (by simp) hgl.1 hy, h1, Bool.and_self, List.length_cons]; exact ⟨trivial, by omega⟩
 rw [q99] at hg;simp only [Bool.and_eq_true, decide_eq_true_eq] at hg;obtain ⟨g1, g2, g3, g4, g5⟩ := hg;obtain ⟨h1, h2⟩ := hin t.Inner ih g5;have hlen : (t.Nodes.filter (fun k => !has s k)).length + cnt s t.Nodes = t.Nodes.length := by
  have := List.length_eq_countP_add_countP (has s) (l := t.Nodes);rw [← List.countP_eq_length_filter];simp only [cnt];have h5 : List.countP (fun a => decide ¬has s a = true) t.Nodes = List.countP (fun k => !has s k) t.Nodes := by
   congr 1; funext k; cases has s k <;> rfl
  omega
 rw [q7j] at hz ⊢;rw [q99];simp only [Bool.and_eq_true, decide_eq_true_eq] at hz ⊢;refine ⟨by omega, by omega, ?_, qcu (fun k hk => hk) _ g4 _, h1⟩
 rw [List.all_eq_true] at g3 ⊢;exact fun x hx => g3 x (List.mem_filter.1 hx).1
theorem qtj (s : Nat) : ∀ t : Trust, size (less s t) ≤ size t ∧ depth (less s t) ≤ depth t := by
 apply Trust.ind;intro t ih;have hin : ∀ l : List Trust, (∀ x ∈ l, size (less s x) ≤ size x ∧ depth (less s x) ≤ depth x) → sizes (kept s l) + (kept s l).length ≤ sizes l + l.length ∧ q2q (kept s l) ≤ q2q l := by
  intro l;induction l with
  | nil => intro _; simp [kept]
  | cons y r ihr =>
   intro h;obtain ⟨h1, h2⟩ := ihr (fun x hx => h x (by simp [hx]))
   obtain ⟨h3, h4⟩ := h y (by simp)
   simp only [kept];split
   ·simp only [sizes, q2q, List.length_cons]; omega
   ·simp only [sizes, q2q, List.length_cons]; omega
 obtain ⟨h1, h2⟩ := hin t.Inner ih;have h3 : (t.Nodes.filter (fun k => !has s k)).length ≤ t.Nodes.length := List.length_filter_le _ _
 rw [q7j];simp only [qf1, q1a t, q9t];omega
theorem qrz (s : Nat) (t : Trust) (h : valid t = true) (hz : (less s t).Threshold ≠ 0) : valid (less s t) = true := by
 simp only [valid, Bool.and_eq_true, decide_eq_true_eq] at h ⊢;obtain ⟨h1, h2⟩ := qtj s t;exact ⟨by omega, by omega, qu5 s t h.2.2 hz⟩
theorem qvi : ∀ t : Trust, Fits t → z3s t = some t := by
 apply Trust.ind;intro t ih ht;have hsz : size t < 1073741824 := ht;rw [q1a] at hsz;have l1 : ∀ (suf : List Trust) (i : Nat) (acc : List Trust) (a8 : Int) (a10 : List Int) (a12 : List Trust) (a14 : Int) (a16 : List Int) (a18 : List Trust) (a20 : Int) (a22 : List Int), t.Inner.drop i = suf → acc.length ≤ i →
   z2v t.Inner ((t.Inner.length : Nat) : Int) (i : Int) a8 a10 a12 a14 a16 a18 a20 a22 acc = some ⟨a20, a22, acc ++ suf⟩ := by
  intro suf;induction suf with
  | nil =>
   intro i acc a8 a10 a12 a14 a16 a18 a20 a22 h ha;apply qzg;simp only [q0j h, cond_false, List.append_nil]
  | cons y suf ihs =>
   intro i acc a8 a10 a12 a14 a16 a18 a20 a22 h ha;have hlt := q0i h;have hy : y ∈ t.Inner := List.mem_of_mem_drop (by rw [h]; exact List.mem_cons_self)
   apply qzg;simp only [q0a h, cond_true, q08 h, ih y hy (ht.mem hy), Option.bind_some, q02 (show i < 4611686018427387904 by omega), Trust.eta]
   rw [q06 (by simp [q0f]; omega), ihs (i + 1) (acc ++ [y]) _ _ _ _ _ _ _ _ (q04 h) (by simp; omega)]
   simp
 apply y5p;rw [q06 (by simp [q0f]; omega), show (0 : Int) = ((0 : Nat) : Int) from rfl, l1 t.Inner 0 [] _ _ _ _ _ _ _ _ rfl (Nat.le_refl _)]
 simp
def del (k : Int) (s : Nat) (t : Trust) : Trust := if (less s t).Threshold = 0 then ⟨1, [k], []⟩ else less s t
def delM (s : Nat) (k : Nat) (m : Member) : Member := if has s (k : Int) then ⟨false, blank⟩ else if m.Declared then ⟨true, del k s m.Trust⟩ else m
def delL (s : Nat) : Nat → List Member → List Member
 | _, [] => []
 | k, m :: r => delM s k m :: delL s (k + 1) r
def delC (s : Nat) (c : Config) : Config := ⟨delL s 0 c.Members⟩
def Bears (c : Config) : Prop := c.Members.length < 1073741824 ∧ ∀ m ∈ c.Members, Fits m.Trust ∧ wf m.Trust = true
theorem qnm {s : Nat} (hs : s < 1024) (c : Config) (hc : Bears c) : z3r c (s : Int) = some (delC s c) := by
 obtain ⟨hl, hb⟩ := hc;have l1 : ∀ (suf : List Member) (i : Nat) (acc a10 a12 : List Member), c.Members.drop i = suf → acc.length ≤ i →
   z1k (s : Int) c.Members ((c.Members.length : Nat) : Int) (i : Int) a10 a12 acc = some ⟨acc ++ delL s i suf⟩ := by
  intro suf;induction suf with
  | nil =>
   intro i acc a10 a12 h ha;apply qyw;simp only [q0j h, cond_false, delL, List.append_nil]
  | cons y suf ihs =>
   intro i acc a10 a12 h ha;have hlt := q0i h;obtain ⟨hf, hw⟩ := hb y (List.mem_of_mem_drop (by rw [h]; exact List.mem_cons_self))
   have step : z1k (s : Int) c.Members ((c.Members.length : Nat) : Int) ((i + 1 : Nat) : Int) a10 a12 (acc ++ [delM s i y]) = some ⟨acc ++ delL s i (y :: suf)⟩ := by
    rw [ihs (i + 1) _ _ _ (q04 h) (by simp; omega)]
    simp [delL]
   apply qyw;simp only [q0a h, cond_true, q08 h, q26 hs, Option.bind_some, q02 (show i < 4611686018427387904 by omega)]
   cases hh : has s (i : Int) with
   | true =>
    simp only [cond_true];rw [q06 (by simp [q0f]; omega), ← step]
    simp [delM, hh, blank]
   | false =>
    cases hd : y.Declared with
    | true =>
     simp only [cond_true, cond_false, y5y hs y.Trust hf hw, Option.bind_some, Trust.eta];rw [q06 (by simp [q0f]; omega), ← step]
     simp [delM, hh, hd, del]
    | false =>
     simp only [cond_false, qvi y.Trust hf, Option.bind_some, Trust.eta];rw [q06 (by simp [q0f]; omega), ← step]
     have : y = ⟨false, y.Trust⟩ := by cases y; simp only at hd; rw [hd]
     simp [delM, hh, hd];rw [this]
 apply y77;rw [show (0 : Int) = ((0 : Nat) : Int) from rfl, l1 c.Members 0 [] _ _ rfl (Nat.le_refl _)]
 simp [delC]
theorem MemOk.fits {m : Int} {x : Member} (h : MemOk m x) : Fits x.Trust ∧ wf x.Trust = true := by
 unfold MemOk at h;split at h
 ·exact qcp h.1
 ·rw [h]; exact ⟨by simp [Fits, blank, size, sizes], rfl⟩
theorem ConfOk.bears {n : Nat} {c : Config} (h : ConfOk n c) (hn : n ≤ 10) : Bears c := ⟨by have := h.le; omega, fun m hm => (h.mem m hm).fits⟩
theorem ConfOk.blank {n : Nat} {c : Config} (h : ConfOk n c) : ∀ m ∈ c.Members, m.Declared = false → m.Trust = blank := fun m hm hd => by
 have := h.mem m hm; unfold MemOk at this; simpa [hd] using this
theorem qf2 (s : Nat) : ∀ (l : List Member) (k : Nat), (delL s k l).length = l.length
 | [], _ => rfl
 | m :: r, k => by simp only [delL, List.length_cons, qf2 s r (k + 1)]
theorem qt5 {t : Trust} (h : valid t = true) : good t = true := by
 simp only [valid, Bool.and_eq_true] at h; exact h.2.2
theorem qti {k : Int} (hk : inR k = true) {s : Nat} {t : Trust} (h : valid t = true) : valid (del k s t) = true := by
 unfold del;split
 ·exact qkt hk
 ·rename_i hz; exact qrz s t h hz
def low (c : Int) (n : Nat) : Int := if c ≤ 0 then c else max 0 (c - n)
theorem qps {c : Int} (h : c < 9223372036854775808) : z60 c = some (low c 1) := by
 apply y6w;unfold low;by_cases h0 : c ≤ 0
 ·simp only [q0e h0, cond_true, if_pos h0]
 ·simp only [q09 (Int.not_le.1 h0), cond_false, if_neg h0];rw [q22 (by omega) (by omega)]
  congr 1; omega
theorem qnu (c : Int) (m n : Nat) : low (low c m) n = low c (m + n) := by
 unfold low;by_cases h : c ≤ 0
 ·simp [h]
 ·simp only [if_neg h]; split <;> omega
theorem qte {c : Int} (h : c < 9223372036854775808) (n : Nat) : low c n < 9223372036854775808 := by unfold low; split <;> omega
theorem qq3 (c : Int) : low c 0 = c := by unfold low; split <;> omega
def lessR (s : Nat) (t : Trust) : Trust := ⟨low t.Threshold (cnt s t.Nodes + gone s t.Inner), (less s t).Nodes, (less s t).Inner⟩
theorem q9q (s : Nat) (t : Trust) : (lessR s t).Threshold ≤ 0 ↔ (less s t).Threshold = 0 := by
 rw [q7j]; simp only [lessR, low]; split <;> omega
theorem qjm {s : Nat} {t : Trust} (h : (less s t).Threshold ≠ 0) : lessR s t = less s t := by
 rw [q7j] at h ⊢;simp only [lessR, q7j, low] at h ⊢;congr 1
 split <;> omega
theorem qcn {s : Nat} (hs : s < 1024) (xs : List Int) (hl : xs.length < 1073741824) (a11 : Int) (a13 : List Int) (a15 : List Trust) (a17 : Int) (a19 : List Int) (a21 a27 : List Trust) :
  ∀ (suf : List Int) (i : Nat) (c : Int) (acc : List Int), xs.drop i = suf → c < 9223372036854775808 → acc.length ≤ i →
  Le (z3c (s : Int) a15 ((a15.length : Nat) : Int) 0 a11 a13 a15 a17 a19 a21 (low c (cnt s suf)) (acc ++ suf.filter (fun k => !has s k)) a27) (z49 (s : Int) xs ((xs.length : Nat) : Int) (i : Int) a11 a13 a15 a17 a19 a21 c acc a27)
 | [], i, c, acc, h, h1, ha => fun r hr => by
  apply y1h;simp only [q0j h, cond_false];rw [← hr]; congr 1
  ·simp [cnt, qq3]
  ·simp
 | y :: suf, i, c, acc, h, h1, ha => fun r hr => by
  have hlt := q0i h;apply y1h;simp only [q0a h, cond_true, q08 h, q1y hs, Option.bind_some, q02 (show i < 4611686018427387904 by omega)]
  cases hy : has s y with
  | true =>
   simp only [cond_true, qps h1, Option.bind_some];refine qcn hs xs hl a11 a13 a15 a17 a19 a21 a27 suf (i + 1) (low c 1) acc (q04 h) (qte h1 1) (by omega) r ?_
   rw [← hr, qnu]; congr 1
   ·simp only [cnt, List.countP_cons, hy, if_true]; congr 1; omega
   ·simp [hy]
  | false =>
   simp only [cond_false];rw [q06 (by simp [q0f]; omega)]
   refine qcn hs xs hl a11 a13 a15 a17 a19 a21 a27 suf (i + 1) c (acc ++ [y]) (q04 h) h1 (by simp; omega) r ?_
   rw [← hr]; congr 1
   ·simp [cnt, hy]
   ·simp [hy]
theorem qss {s : Nat} (hs : s < 1024) : ∀ t : Trust, Fits t → wf t = true → z67 t (s : Int) = some (lessR s t) := by
 apply Trust.ind;intro t ih ht hw;have hsz : size t < 1073741824 := ht;rw [q1a] at hsz;rw [wf_eq, Bool.and_eq_true, decide_eq_true_eq] at hw;have l2 : ∀ (suf : List Trust) (i : Nat) (c : Int) (nodes : List Int) (acc : List Trust) (a17 : Int) (a19 : List Int) (a21 : List Trust), t.Inner.drop i = suf → c < 9223372036854775808 → acc.length ≤ i →
   z3c (s : Int) t.Inner ((t.Inner.length : Nat) : Int) (i : Int) t.Threshold t.Nodes t.Inner a17 a19 a21 c nodes acc = some ⟨low c (gone s suf), nodes, acc ++ kept s suf⟩ := by
  intro suf;induction suf with
  | nil =>
   intro i c nodes acc a17 a19 a21 h h1 ha;apply y1x;simp only [q0j h, cond_false, kept, List.append_nil, gone, qq3]
  | cons y suf ihs =>
   intro i c nodes acc a17 a19 a21 h h1 ha;have hlt := q0i h;have hy : y ∈ t.Inner := List.mem_of_mem_drop (by rw [h]; exact List.mem_cons_self)
   apply y1x;simp only [q0a h, cond_true, q08 h, ih y hy (ht.mem hy) (qni hw.2 y hy), Option.bind_some, q02 (show i < 4611686018427387904 by omega), Trust.eta]
   by_cases hz : (less s y).Threshold = 0
   ·simp only [q0e ((q9q s y).2 hz), cond_true, qps h1, Option.bind_some];rw [ihs (i + 1) (low c 1) nodes acc a17 a19 a21 (q04 h) (qte h1 1) (by omega), qnu]
    simp only [kept, hz, if_true, gone]
   ·simp only [q09 (Int.not_le.1 fun e => hz ((q9q s y).1 e)), cond_false]
    rw [q06 (by simp [q0f]; omega), qjm hz]
    rw [ihs (i + 1) c nodes (acc ++ [less s y]) a17 a19 a21 (q04 h) h1 (by simp; omega)]
    simp only [kept, hz, if_false, gone, Nat.zero_add, List.append_assoc, List.cons_append, List.nil_append]
 apply y4z;refine qcn hs t.Nodes (by omega) _ _ _ _ _ _ _ t.Nodes 0 t.Threshold [] rfl hw.1 (Nat.le_refl _) _ ?_
 rw [show (0 : Int) = ((0 : Nat) : Int) from rfl, l2 t.Inner 0 _ _ _ _ _ _ rfl (qte hw.1 _) (Nat.le_refl _), qnu]
 simp only [lessR, q7j, List.nil_append]
theorem qrs {s : Nat} (hs : s < 1024) (t : Trust) (ht : Fits t) (hw : wf t = true) (k : Int) : z6d t k (s : Int) = some (del k s t) := by
 apply y70;simp only [q1f hs, Option.bind_some, Bool.not_true, cond_false, qss hs t ht hw];unfold del;by_cases hz : (less s t).Threshold = 0
 ·simp only [q0e ((q9q s t).2 hz), cond_true, if_pos hz]
 ·have hp : 0 < (less s t).Threshold := by
   have := Int.not_le.1 fun e => hz ((q9q s t).1 e)
   rw [qjm hz] at this;exact this
  simp only [qjm hz, q09 hp, cond_false, if_neg hz, Trust.eta]
theorem q80 {s : Nat} (hs : s < 1024) (c : Config) (hc : Bears c) : z57 c (s : Int) = some (delC s c) := by
 obtain ⟨hl, hb⟩ := hc;have l1 : ∀ (suf : List Member) (i : Nat) (acc a10 a12 : List Member), c.Members.drop i = suf → acc.length ≤ i →
   z25 (s : Int) c.Members ((c.Members.length : Nat) : Int) (i : Int) a10 a12 acc = some ⟨acc ++ delL s i suf⟩ := by
  intro suf;induction suf with
  | nil =>
   intro i acc a10 a12 h ha;apply y08;simp only [q0j h, cond_false, delL, List.append_nil]
  | cons y suf ihs =>
   intro i acc a10 a12 h ha;have hlt := q0i h;obtain ⟨hf, hw⟩ := hb y (List.mem_of_mem_drop (by rw [h]; exact List.mem_cons_self))
   have step : z25 (s : Int) c.Members ((c.Members.length : Nat) : Int) ((i + 1 : Nat) : Int) a10 a12 (acc ++ [delM s i y]) = some ⟨acc ++ delL s i (y :: suf)⟩ := by
    rw [ihs (i + 1) _ _ _ (q04 h) (by simp; omega)]
    simp [delL]
   apply y08;simp only [q0a h, cond_true, q08 h, q1y hs, Option.bind_some, q02 (show i < 4611686018427387904 by omega)]
   cases hh : has s (i : Int) with
   | true =>
    simp only [cond_true];rw [q06 (by simp [q0f]; omega), ← step]
    simp [delM, hh, blank]
   | false =>
    cases hd : y.Declared with
    | true =>
     simp only [cond_true, cond_false, qrs hs y.Trust hf hw, Option.bind_some, Trust.eta];rw [q06 (by simp [q0f]; omega), ← step]
     simp [delM, hh, hd]
    | false =>
     simp only [cond_false, Trust.eta];rw [q06 (by simp [q0f]; omega), ← step]
     have : y = ⟨false, y.Trust⟩ := by cases y; simp only at hd; rw [hd]
     simp [delM, hh, hd];rw [this]
 apply y4f;simp only [q1f hs, Option.bind_some, Bool.not_true, cond_false];rw [show (0 : Int) = ((0 : Nat) : Int) from rfl, l1 c.Members 0 [] _ _ rfl (Nat.le_refl _)]
 simp [delC]
theorem TB.fits {t : Trust} (h : TB t) : Fits t := by have := h.1; unfold Fits; omega
theorem CB.bears {c : Config} (h : CB c) : Bears c := ⟨by have := h.1; omega, fun m hm => ⟨(h.2 m hm).fits, (h.2 m hm).2⟩⟩
end Go.Proofs.YtbmelgbadedbbaaGreat
