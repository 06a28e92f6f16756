/- Laws of the printed functions. -/
import Derived.Test.YthbpagedblodfaaGreatP19SegA
import Derived.Test.YthbpagedblodfaaGreatRows
import Derived.ProofKit
import Derived.LaidMore
import Derived.OpenShut
import Derived.Stop.Joined
namespace Go.Proofs.YthbpagedblodfaaGreat
open Go Go.Ab
def say (v : Voter) : Message := ⟨v.Node, v.Seq, v.Trust, v.Votes, v.Accepts⟩
def q24 (n : Int) : Option Int → List Message → Bool
 | _, [] => true
 | none, m :: r => msgB m && (!decide (m.Node = n) && q24 n (some m.Node) r)
 | some q, m :: r => msgB m && (!decide (m.Node = n) && (decide (q < m.Node) && q24 n (some m.Node) r))
structure SmallV (v : Voter) : Prop where
 tr : Small v.Trust
 votes : v.Votes.length < 1000000
 accs : v.Accepts.length < 1000000
 confs : v.Confirms.length < 1000000
 heard : v.Heard.length < 1000000
 msgs : ∀ m ∈ v.Heard, SmallM m
def q3v (v : Voter) : Bool := inR v.Node && (decide (1 ≤ v.Seq) && (decide (v.Seq ≤ 1000000) && (valid v.Trust && (plainC v.Votes && (plainC v.Accepts && (plainC v.Confirms && (consC v.Votes && (consC v.Accepts && (v.Confirms.all (fun x => decide (x ∈ v.Accepts)) && q24 v.Node none v.Heard)))))))))
theorem q0g {n : Int} : ∀ {l : List Message} {q : Option Int}, q24 n q l = true ↔ (∀ m ∈ l, msgB m = true ∧ m.Node ≠ n) ∧ (∀ k, q = some k → ∀ m ∈ l, k < m.Node) ∧ l.Pairwise (fun a b => a.Node < b.Node)
 | [], q => by cases q <;> simp [q24]
 | m :: r, q => by
  have ih := q0g (n := n) (l := r) (q := some m.Node);have h1 : q24 n q (m :: r) = true ↔ msgB m = true ∧ m.Node ≠ n ∧ (∀ k, q = some k → k < m.Node) ∧ q24 n (some m.Node) r = true := by
   cases q <;> simp [q24]
  rw [h1, ih, List.pairwise_cons];constructor
  ·rintro ⟨g1, g2, g3, g4, g5, g6⟩;refine ⟨fun x hx => ?_, fun k hk x hx => ?_, g5 _ rfl, g6⟩
   ·rcases List.mem_cons.1 hx with e | hx
    ·subst e; exact ⟨g1, g2⟩
    ·exact g4 x hx
   ·rcases List.mem_cons.1 hx with e | hx
    ·subst e; exact g3 k hk
    ·exact Int.lt_trans (g3 k hk) (g5 _ rfl x hx)
  ·rintro ⟨g1, g2, g3, g4⟩;exact ⟨(g1 m (by simp)).1, (g1 m (by simp)).2, fun k hk => g2 k hk m (by simp), fun x hx => g1 x (by simp [hx]), fun k hk x hx => by cases hk; exact g3 x hx, g4⟩
theorem qki {n : Int} {l : List Message} (h : q24 n none l = true) : l.length ≤ 10 := by
 obtain ⟨h1, _, h3⟩ := q0g.1 h;have := qs2 (m := 10) (l := l.map (·.Node)) (by decide) (fun k hk => by
  obtain ⟨m, hm, rfl⟩ := List.mem_map.1 hk;have := (q20.1 (h1 m hm).1).1;simpa [inR] using this) (List.pairwise_map.2 h3)
 simp at this; omega
theorem qsz (l : List Claim) (v : Voter) (hl : l.length < 1152921504606846976) (ha : v.Accepts.length < 1000000) : ∀ (suf : List Claim) (i : Nat), l.drop i = suf → ∃ r : Int, z0r l ((l.length : Nat) : Int) (i : Int) v.Node v.Seq v.Trust.Threshold v.Trust.Nodes v.Trust.Inner v.Votes v.Accepts v.Confirms v.Heard = some (r, v.Node, v.Seq, v.Trust.Threshold, v.Trust.Nodes, v.Trust.Inner, v.Votes, v.Accepts, v.Confirms, v.Heard) ∧ leB 0 r = !(suf.all fun x => decide (x ∈ v.Accepts))
 | [], i, h => by
  refine ⟨-1, qtp _ _ _ _ _ _ _ _ _ _ _ _ _ ?_, by simp [leB]⟩;rw [q0t h]; rfl
 | y :: suf, i, h => by
  have hlt := q0p h;obtain ⟨r, h1, h2⟩ := qsz l v hl ha suf (i + 1) (q06 h);have hf : z4h y v.Node v.Seq v.Trust.Threshold v.Trust.Nodes v.Trust.Inner v.Votes v.Accepts v.Confirms v.Heard = some (!decide (y ∈ v.Accepts), v.Node, v.Seq, v.Trust.Threshold, v.Trust.Nodes, v.Trust.Inner, v.Votes, v.Accepts, v.Confirms, v.Heard) := by
   apply y3o;rw [qgx _ (by omega)]; rfl
  by_cases hy : y ∈ v.Accepts
  ·refine ⟨r, qtp _ _ _ _ _ _ _ _ _ _ _ _ _ ?_, by rw [h2]; simp [hy]⟩;rw [q0c h, cT, q0a h, hf, bS, q00 (by omega)];simp only [hy, decide_true, nT, cF];exact h1
  ·refine ⟨i, qtp _ _ _ _ _ _ _ _ _ _ _ _ _ ?_, by simp [hy, leB]⟩;rw [q0c h, cT, q0a h, hf, bS];simp only [hy, decide_false, Bool.not_false, cT]
theorem qz8 (v : Voter) (hl : v.Heard.length < 1000000) (hm : ∀ m ∈ v.Heard, SmallM m) : ∀ (suf : List Message) (i : Nat) (z : Message), v.Heard[i]? = some z → v.Heard.drop (i + 1) = suf →
  z1y v.Heard ((v.Heard.length : Nat) : Int) ((i + 1 : Nat) : Int) v.Node v.Seq v.Trust.Threshold v.Trust.Nodes v.Trust.Inner v.Votes v.Accepts v.Confirms v.Heard = some (q24 v.Node (some z.Node) suf)
 | [], i, z, hz, h => by
  apply qq1;rw [q0t h]; rfl
 | y :: suf, i, z, hz, h => by
  have hlt := q0p h;apply qq1;rw [q0c h, cT, q0a h, qco (hm y (List.mem_of_mem_drop (i := i + 1) (by rw [h]; simp))), bS, q04 (by omega), cT, q38 (by omega) (by omega), q0z (y := z) (by omega) (by rw [show (((i + 1 : Nat) : Int) - 1).toNat = i by omega]; exact hz), q00 (by omega),
   qz8 v hl hm suf (i + 1) y (by have := congrArg (·[0]?) h; simpa using this) (q06 h)]
  rw [q24, show leB y.Node z.Node = !decide (z.Node < y.Node) by by_cases h2 : z.Node < y.Node <;> simp [leB, h2] <;> omega];simp only [eqB];cases msgB y <;> cases decide (y.Node = v.Node) <;> cases decide (z.Node < y.Node) <;> rfl
theorem y3z (v : Voter) (hl : v.Heard.length < 1000000) (hm : ∀ m ∈ v.Heard, SmallM m) : z1y v.Heard ((v.Heard.length : Nat) : Int) 0 v.Node v.Seq v.Trust.Threshold v.Trust.Nodes v.Trust.Inner v.Votes v.Accepts v.Confirms v.Heard = some (q24 v.Node none v.Heard) := by
 cases hh : v.Heard with
 | nil =>
  apply qq1;simp [ltB, q24]
 | cons y r =>
  have h1 := qz8 v hl hm r 0 y (by rw [hh]; rfl) (by rw [hh]; rfl);rw [hh] at h1 hm;apply qq1;rw [q04 (by rw [List.length_cons]; omega), cT, q0z (y := y) (by omega) rfl, qco (hm y (by simp)), bS, q01 (by omega), cF, show addI .i64 0 1 = ((0 + 1 : Nat) : Int) from rfl, h1, q24];by_cases h1 : y.Node = v.Node
  all_goals cases msgB y <;> simp [h1, eqB]
theorem qht {v : Voter} (h : SmallV v) : z4e v = some (q3v v) := by
 obtain ⟨h1, h2, h3, h4, h5, h6⟩ := h;apply y0o;obtain ⟨r, g1, g2⟩ := qsz v.Confirms v (by omega) h3 v.Confirms 0 rfl;have g3 : z1i v.Confirms v.Node v.Seq v.Trust.Threshold v.Trust.Nodes v.Trust.Inner v.Votes v.Accepts v.Confirms v.Heard = _ := y1w _ _ _ _ _ _ _ _ _ _ _ g1;have g4 : z1h v.Confirms v.Node v.Seq v.Trust.Threshold v.Trust.Nodes v.Trust.Inner v.Votes v.Accepts v.Confirms v.Heard = some (!(v.Confirms.all fun x => decide (x ∈ v.Accepts)), v.Node, v.Seq, v.Trust.Threshold, v.Trust.Nodes, v.Trust.Inner, v.Votes, v.Accepts, v.Confirms, v.Heard) := by
  apply y3q;rw [g3, bS, g2]
 rw [qev _ h1, q8g _ (by omega), q8g _ (by omega), q8g _ (by omega), g4];simp only [bS, y3z v h5 h6, quq];unfold q3v inR ltB leB;by_cases e1 : v.Node < 0
 ·have : ¬ 0 ≤ v.Node := by omega
  simp [e1, this]
 have e1' : 0 ≤ v.Node := by omega
 by_cases e2 : 10 ≤ v.Node
 ·have : ¬ v.Node < 10 := by omega
  simp [e1, e2, this]
 have e2' : v.Node < 10 := by omega
 by_cases e3 : v.Seq < 1
 ·have : ¬ 1 ≤ v.Seq := by omega
  simp [e1, e2, e3, this]
 have e3' : 1 ≤ v.Seq := by omega
 by_cases e4 : 1000000 < v.Seq
 ·have : ¬ v.Seq ≤ 1000000 := by omega
  simp [e1, e2, e3, e4, this]
 have e4' : v.Seq ≤ 1000000 := by omega
 simp only [e1, e1', e2, e2', e3, e3', e4, e4', decide_false, decide_true, cF, tA', Bool.and_true];cases valid v.Trust with
 | false => simp
 | true =>
  cases hp1 : plainC v.Votes with
  | false => simp
  | true =>
   cases hp2 : plainC v.Accepts with
   | false => simp
   | true =>
    cases plainC v.Confirms with
    | false => simp
    | true =>
     rw [qk3 _ (by omega) (q0o.1 hp1).1, qk3 _ (by omega) (q0o.1 hp2).1];simp only [bS];cases consC v.Votes <;> cases consC v.Accepts <;> cases v.Confirms.all (fun x => decide (x ∈ v.Accepts)) <;> rfl
structure Ready (v : Voter) : Prop where
 node : inR v.Node = true
 seq : 1 ≤ v.Seq ∧ v.Seq ≤ 1000000
 tr : valid v.Trust = true
 votes : plainC v.Votes = true
 accs : plainC v.Accepts = true
 confs : plainC v.Confirms = true
 cons : consC v.Accepts = true
 sub : ∀ x ∈ v.Confirms, x ∈ v.Accepts
 heard : q24 v.Node none v.Heard = true
theorem q0y {v : Voter} : q3v v = true ↔ Ready v ∧ consC v.Votes = true := by
 simp only [q3v, aT, dT', List.all_eq_true];constructor
 ·rintro ⟨h1, h2, h3, h4, h5, h6, h7, h8, h9, h10, h11⟩;exact ⟨⟨h1, ⟨h2, h3⟩, h4, h5, h6, h7, h9, h10, h11⟩, h8⟩
 ·rintro ⟨⟨h1, ⟨h2, h3⟩, h4, h5, h6, h7, h9, h10, h11⟩, h8⟩;exact ⟨h1, h2, h3, h4, h5, h6, h7, h8, h9, h10, h11⟩
def allM (v : Voter) : List Message := v.Heard ++ [say v]
theorem Ready.msg {v : Voter} (h : Ready v) : ∀ m ∈ v.Heard, msgB m = true ∧ m.Node ≠ v.Node := (q0g.1 h.heard).1
theorem Ready.say {v : Voter} (h : Ready v) : msgB (say v) = true := q20.2 ⟨h.node, h.seq.1, h.tr, h.votes, h.accs⟩
theorem Ready.all {v : Voter} (h : Ready v) : ∀ m ∈ allM v, msgB m = true := fun m hm => by
 rcases List.mem_append.1 hm with hm | hm
 ·exact (h.msg m hm).1
 ·simp at hm; subst hm; exact h.say
theorem Ready.len {v : Voter} (h : Ready v) : (allM v).length ≤ 11 := by have := qki h.heard; simp [allM]; omega
theorem Ready.hlen {v : Voter} (h : Ready v) : v.Heard.length ≤ 10 := qki h.heard
theorem Ready.alen {v : Voter} (h : Ready v) : v.Accepts.length ≤ 128 := q2i h.accs
theorem Ready.vlen {v : Voter} (h : Ready v) : v.Votes.length ≤ 128 := q2i h.votes
theorem Ready.clen {v : Voter} (h : Ready v) : v.Confirms.length ≤ 128 := q2i h.confs
theorem Ready.small {v : Voter} (h : Ready v) : SmallV v := ⟨q3i h.tr, by have := h.vlen; omega, by have := h.alen; omega, by have := h.clen; omega, by have := h.hlen; omega, fun m hm => q1m (h.msg m hm).1⟩
theorem qor (v : Voter) : z4k v = some (say v) := y4v _ _ (by rw [Trust.etaM]; rfl)
theorem qlu (m : Message) : Message.mk m.Node m.Seq (Trust.mk m.Trust.Threshold m.Trust.Nodes m.Trust.Inner) m.Votes m.Accepts = m := by rw [Trust.etaM]
theorem q47 (v : Voter) : Voter.mk v.Node v.Seq (Trust.mk v.Trust.Threshold v.Trust.Nodes v.Trust.Inner) v.Votes v.Accepts v.Confirms v.Heard = v := by rw [Trust.etaM]
theorem qfd (l : List Message) (hl : l.length < 1000000) : z1n l = some ((), l) := y4q _ _ (by rw [q0l (by simp [q08]; omega)]; rfl)
theorem q6t (l : List Claim) (hl : l.length < 1000000) : z18 l = some ((), l) := qy1 _ _ (by rw [q0l (by simp [q08]; omega)]; rfl)
def q5q (l : List Message) : List Claim := l.flatMap fun m => m.Votes ++ m.Accepts
def known (v : Voter) : List Claim := q0v (q5q (allM v))
theorem qia {m : Message} (h : msgB m = true) : ∀ x ∈ m.Votes ++ m.Accepts, vcl x = true := fun x hx => by
 obtain ⟨_, _, _, h1, h2⟩ := q20.1 h;rcases List.mem_append.1 hx with hx | hx
 ·exact (q0o.1 h1).1 x hx
 ·exact (q0o.1 h2).1 x hx
theorem qm0 (l : List Message) (hl : l.length ≤ 11) (hm : ∀ m ∈ l, msgB m = true) : ∀ (suf : List Message) (i : Nat) (acc : List Claim), i ≤ l.length → l.drop i = suf → acc.length ≤ 256 * i → (∀ x ∈ acc, vcl x = true) → z34 acc l ((l.length : Nat) : Int) (i : Int) = some (q0v (acc ++ q5q suf))
 | [], i, acc, hi, h, ha, hv => by
  apply qyo;rw [q0t h, cF, qiy acc (by omega) hv];simp [q5q]
 | m :: suf, i, acc, hi, h, ha, hv => by
  have hlt := q0p h;have g := hm m (List.mem_of_mem_drop (i := i) (by rw [h]; simp));obtain ⟨_, _, _, g1, g2⟩ := q20.1 g;have := q2i g1;have := q2i g2;apply qyo;rw [q0c h, cT, q0a h, q0l (by simp [q08]; omega), q0l (by simp [q08]; omega), q00 (by omega), qm0 l hl hm suf (i + 1) _ hlt (q06 h) (by simp; omega) (fun x hx => by
   rw [List.append_assoc] at hx;rcases List.mem_append.1 hx with hx | hx
   ·exact hv x hx
   ·exact qia g x hx)]
  simp [q5q]
theorem qvc {v : Voter} (h : Ready v) : z4g (allM v) = some (known v) := by
 apply y52;have := qm0 (allM v) h.len h.all (allM v) 0 [] (by omega) rfl (by simp) (by simp);exact this
def viewV (v : Voter) : Config := viewC v.Node v.Trust v.Heard
def canB (v : Voter) (x : Claim) : Bool := !decide (x ∈ v.Accepts) && (decide (∀ y ∈ v.Accepts, ¬ Contra x y) && accB (viewV v) v.Node.toNat (votes (allM v) x) (q0x (allM v) x))
def nextV (v : Voter) : Option Claim := (known v).find? (canB v)
theorem Ready.view {v : Voter} (h : Ready v) : q7m (viewV v) := qnd h.tr fun m hm => (h.msg m hm).1
theorem Ready.node' {v : Voter} (h : Ready v) : v.Node.toNat < 10 ∧ ((v.Node.toNat : Nat) : Int) = v.Node := by have := qac h.node; omega
theorem q8l {v : Voter} {x : Claim} (h : x ∈ known v) : vcl x = true := (q1h.1 h).1
theorem qd3 {A : List Claim} (h : consC A = true) (x : Claim) : consC (A ++ [x]) = decide (∀ y ∈ A, ¬ Contra x y) := by
 rw [Bool.eq_iff_iff, q6b, dT'];rw [q6b] at h;constructor
 ·intro g y hy;exact g x (by simp) y (by simp [hy])
 ·intro g a ha b hb;rcases List.mem_append.1 ha with ha' | ha' <;> rcases List.mem_append.1 hb with hb' | hb'
  ·exact h a ha' b hb'
  ·simp at hb'; subst hb'; exact fun hc => g a ha' hc.symm
  ·simp at ha'; subst ha'; exact g b hb'
  ·simp at ha' hb'; subst ha'; subst hb'; exact fun hc => hc.2 rfl
theorem qky {v : Voter} (h : Ready v) (l : List Claim) (hl : l.length ≤ 128) (hv : ∀ x ∈ l, vcl x = true) : ∀ (suf : List Claim) (i : Nat), l.drop i = suf →
  z2l (allM v) l ((l.length : Nat) : Int) (i : Int) v.Node v.Seq v.Trust.Threshold v.Trust.Nodes v.Trust.Inner v.Votes v.Accepts v.Confirms v.Heard (viewV v).Members 0 0 = some (match suf.find? (canB v) with | some x => (x, true) | none => (⟨0, 0⟩, false))
 | [], i, g => by
  apply qyw;rw [q0t g]; rfl
 | y :: suf, i, g => by
  have hlt := q0p g;have hlen := h.len;have halen := h.alen;have hy := hv y (List.mem_of_mem_drop (i := i) (by rw [g]; simp));have ih := qky h l hl hv suf (i + 1) (q06 g);obtain ⟨n1, n2⟩ := h.node';have hvc : ∀ x ∈ v.Accepts ++ [y], vcl x = true := fun x hx => by
   rcases List.mem_append.1 hx with hx | hx
   ·exact (q0o.1 h.accs).1 x hx
   ·simp at hx; subst hx; exact hy
  have hacc : z38 ⟨(viewV v).Members⟩ v.Node ((votes (allM v) y : Nat) : Int) ((q0x (allM v) y : Nat) : Int) = some (accB (viewV v) v.Node.toNat (votes (allM v) y) (q0x (allM v) y)) := by
   have := qvv h.view (qqi h.all y) (qa6 h.all y) n1;rw [n2] at this; exact this
  apply qyw;rw [q0c g, cT, q0a g, qgx _ (by omega), bS, q6t _ (by omega), bS, q0l (by simp [q08]; omega), qk3 _ (by simp; omega) hvc, bS, qd3 h.cons, qvt _ (by omega) h.all, bS, qqa _ (by omega) h.all, bS, hacc, bS, q00 (by omega), ih, List.find?_cons];simp only [canB];by_cases h1 : y ∈ v.Accepts
  ·simp only [h1, decide_true, cT, nT, Bool.false_and]
  ·by_cases h2 : ∀ z ∈ v.Accepts, ¬ Contra y z
   ·simp only [h1, decide_false, cF, Bool.not_false, tA', decide_eq_true h2, nT];cases accB (viewV v) v.Node.toNat (votes (allM v) y) (q0x (allM v) y) <;> rfl
   ·simp only [h1, decide_false, cF, Bool.not_false, tA', decide_eq_false h2, Bool.not_false, cT, Bool.false_and]
theorem qkt {v : Voter} (h : Ready v) : z4b v (viewV v) = some (match nextV v with | some x => (x, true) | none => (⟨0, 0⟩, false)) := by
 apply y0z;have hh := h.hlen;rw [qfd _ (by omega), bS, qor, bS, qlu, q0l (by simp [q08]; omega)];have : z4g (v.Heard ++ [say v]) = _ := qvc h;rw [this, bS];exact qky h (known v) (qfc _) (fun x hx => q8l hx) (known v) 0 rfl
def withA (v : Voter) (x : Claim) : Voter := { v with Accepts := q0v (v.Accepts ++ [x]) }
def q1z : Nat → Voter → Voter
 | 0, v => v
 | n + 1, v => match nextV v with
  | none => v
  | some x => q1z n (withA v x)
theorem qax {v : Voter} {x : Claim} (h : nextV v = some x) : x ∈ known v ∧ x ∉ v.Accepts ∧ (∀ y ∈ v.Accepts, ¬ Contra x y) ∧ accB (viewV v) v.Node.toNat (votes (allM v) x) (q0x (allM v) x) = true := by
 have h1 := List.mem_of_find?_eq_some h;have h2 := List.find?_some h;simp only [canB, aT, Bool.not_eq_true', dT', decide_eq_false_iff_not] at h2;exact ⟨h1, h2⟩
theorem qt2 {v : Voter} (h : nextV v = none) : ∀ x ∈ known v, canB v x = false := fun x hx => by
 have := List.find?_eq_none.1 h x hx;simpa using this
theorem qcr {A : List Claim} {x y : Claim} (hA : ∀ z ∈ A, vcl z = true) (hx : vcl x = true) : y ∈ q0v (A ++ [x]) ↔ y ∈ A ∨ y = x := by
 rw [q1h, List.mem_append, List.mem_singleton];constructor
 ·exact fun h => h.2
 ·rintro (h | h)
  ·exact ⟨hA y h, .inl h⟩
  ·exact ⟨by rw [h]; exact hx, .inr h⟩
theorem Ready.avc {v : Voter} (h : Ready v) : ∀ z ∈ v.Accepts, vcl z = true := (q0o.1 h.accs).1
theorem Ready.withA {v : Voter} (h : Ready v) {x : Claim} (hx : vcl x = true) (hc : ∀ y ∈ v.Accepts, ¬ Contra x y) : Ready (withA v x) := by
 have hm := fun y => qcr (y := y) h.avc hx
 refine ⟨h.node, h.seq, h.tr, h.votes, q3n _, h.confs, ?_, fun y hy => (hm y).2 (.inl (h.sub y hy)), h.heard⟩;have : consC (v.Accepts ++ [x]) = true := by rw [qd3 h.cons, dT']; exact hc
 rw [q6b] at this ⊢;intro a ha b hb;exact this a (q1h.1 ha).2 b (q1h.1 hb).2
theorem qs4 {A : List Claim} {x : Claim} (hA : plainC A = true) (hx : vcl x = true) (hn : x ∉ A) : (q0v (A ++ [x])).length = A.length + 1 := by
 have hnd : ∀ {l : List Claim}, l.Pairwise ltc → l.Nodup := fun h => List.Pairwise.imp (fun {a b} (hab : ltc a b) => fun (e : a = b) => q40 a (by rw [← e] at hab; exact hab)) h
 have hp : (q0v (A ++ [x])).Perm (A ++ [x]) := (List.perm_ext_iff_of_nodup (hnd (qai _)) (by
  rw [List.nodup_append];exact ⟨hnd (q0o.1 hA).2, by simp, fun a ha b hb => by simp at hb; subst hb; exact fun e => hn (by rw [← e]; exact ha)⟩)).2 fun y => by
   rw [qcr (q0o.1 hA).1 hx]; simp
 rw [hp.length_eq]; simp
theorem q5o : ∀ (n : Nat) (v : Voter), Ready v → 128 - v.Accepts.length < n → Ready (q1z n v) ∧ nextV (q1z n v) = none
 | 0, v, h, hn => by omega
 | n + 1, v, h, hn => by
  rw [q1z];cases hx : nextV v with
  | none => exact ⟨h, hx⟩
  | some x =>
   obtain ⟨h1, h2, h3, _⟩ := qax hx;have hv := q8l h1;have hr := h.withA hv h3;have hl := qs4 h.accs hv h2;have hal : (q0v (v.Accepts ++ [x])).length ≤ 128 := hr.alen;exact q5o n (withA v x) hr (by show 128 - (q0v (v.Accepts ++ [x])).length < n; omega)
theorem q8q : ∀ (n : Nat) (v : Voter), (q1z n v).Node = v.Node ∧ (q1z n v).Seq = v.Seq ∧ (q1z n v).Trust = v.Trust ∧ (q1z n v).Votes = v.Votes ∧ (q1z n v).Confirms = v.Confirms ∧ (q1z n v).Heard = v.Heard
 | 0, v => ⟨rfl, rfl, rfl, rfl, rfl, rfl⟩
 | n + 1, v => by
  rw [q1z];cases nextV v with
  | none => exact ⟨rfl, rfl, rfl, rfl, rfl, rfl⟩
  | some x => exact q8q n (withA v x)
def confC (v : Voter) (C : List Claim) (l : List Claim) : List Claim := l.foldl (fun C x => if confB (viewV v) v.Node.toNat (q0x (allM v) x) then q0v (C ++ [x]) else C) C
def finish (v : Voter) : Voter := { v with Confirms := confC v v.Confirms v.Accepts }
def q0b (v : Voter) : Voter := finish (q1z 200 v)
theorem qgb (v : Voter) : ∀ (l C : List Claim), plainC C = true → plainC (confC v C l) = true
 | [], C, h => h
 | x :: l, C, h => by
  show plainC (confC v (if _ then _ else _) l) = true;refine qgb v l _ ?_;split
  ·exact q3n _
  ·exact h
theorem qbl (v : Voter) {y : Claim} : ∀ (l C : List Claim), (∀ x ∈ C, vcl x = true) → (∀ x ∈ l, vcl x = true) → (y ∈ confC v C l ↔ y ∈ C ∨ y ∈ l ∧ confB (viewV v) v.Node.toNat (q0x (allM v) y) = true)
 | [], C, _, _ => by simp [confC]
 | x :: l, C, hC, hl => by
  show y ∈ confC v (if _ then _ else _) l ↔ _;have hx := hl x (by simp);have hl' : ∀ z ∈ l, vcl z = true := fun z hz => hl z (by simp [hz])
  by_cases hc : confB (viewV v) v.Node.toNat (q0x (allM v) x) = true
  ·rw [if_pos hc, qbl v l _ (fun z hz => (q1h.1 hz).1) hl', qcr hC hx];constructor
   ·rintro ((h | h) | h)
    ·exact .inl h
    ·exact .inr ⟨by simp [h], by rw [h]; exact hc⟩
    ·exact .inr ⟨by simp [h.1], h.2⟩
   ·rintro (h | ⟨h, h'⟩)
    ·exact .inl (.inl h)
    ·rcases List.mem_cons.1 h with h | h
     ·exact .inl (.inr h)
     ·exact .inr ⟨h, h'⟩
  ·rw [if_neg hc, qbl v l C hC hl'];constructor
   ·rintro (h | h)
    ·exact .inl h
    ·exact .inr ⟨by simp [h.1], h.2⟩
   ·rintro (h | ⟨h, h'⟩)
    ·exact .inl h
    ·rcases List.mem_cons.1 h with h | h
     ·subst h; exact absurd h' hc
     ·exact .inr ⟨h, h'⟩
theorem Ready.finish {v : Voter} (h : Ready v) : Ready (finish v) :=
 ⟨h.node, h.seq, h.tr, h.votes, h.accs, qgb v _ _ h.confs, h.cons, fun x hx => by
  rcases (qbl v _ _ (q0o.1 h.confs).1 h.avc).1 hx with hx | hx
  ·exact h.sub x hx
  ·exact hx.1, h.heard⟩
theorem Ready.settle {v : Voter} (h : Ready v) : Ready (q0b v) := ((q5o 200 v h (by omega)).1).finish
theorem qh5 : ∀ t : Trust, Fits t → z3h t = some t := by
 apply Trust.ind;intro t ih ht;have hsz : size t < 1073741824 := ht;rw [q4g] at hsz;have l1 : ∀ (suf : List Trust) (i : Nat) (acc : List Trust) (a8 : Int) (a10 : List Int) (a12 : List Trust) (a14 : Int) (a16 : List Int) (a18 : List Trust) (a20 : Int) (a22 : List Int), t.Inner.drop i = suf → acc.length ≤ i →
   z32 t.Inner ((t.Inner.length : Nat) : Int) (i : Int) a8 a10 a12 a14 a16 a18 a20 a22 acc = some ⟨a20, a22, acc ++ suf⟩ := by
  intro suf;induction suf with
  | nil =>
   intro i acc a8 a10 a12 a14 a16 a18 a20 a22 h ha;apply qxv;simp only [q0t h, cF, List.append_nil]
  | cons y suf ihs =>
   intro i acc a8 a10 a12 a14 a16 a18 a20 a22 h ha;have hlt := q0p h;have hy : y ∈ t.Inner := List.mem_of_mem_drop (by rw [h]; exact List.mem_cons_self);apply qxv;simp only [q0c h, cT, q0a h, ih y hy (ht.mem hy), bS, q00 (show i < 4611686018427387904 by omega), Trust.etaM];rw [q0l (by simp [q08]; omega), ihs (i + 1) (acc ++ [y]) _ _ _ _ _ _ _ _ (q06 h) (by simp; omega)];simp
 apply y3a;have h1 : z2o t.Nodes = some ((), t.Nodes) := y3k _ _ (by rw [q0l (by simp [q08]; omega)]; rfl);rw [h1, bS, show (0 : Int) = ((0 : Nat) : Int) from rfl, l1 t.Inner 0 [] _ _ _ _ _ _ _ _ rfl (Nat.le_refl _)];simp []
theorem qfh {m : Message} (ht : Fits m.Trust) (h1 : m.Votes.length < 1000000) (h2 : m.Accepts.length < 1000000) : z2j m = some m := by
 apply y0l;rw [qh5 _ ht, bS, q6t _ h1, bS, q6t _ h2, bS, Trust.etaM]
theorem qlk (l : List Message) (hl : l.length < 1000000) (hm : ∀ m ∈ l, z2j m = some m) (n s : Int) (t : Int) (ns : List Int) (is : List Trust) (va aa ca : List Claim) (d1 d2 d3 : Int) (d4 : List Int) (d5 : List Trust) (d6 d7 d8 : List Claim) (d9 : List Message) : ∀ (suf : List Message) (i : Nat) (acc : List Message), l.drop i = suf → acc.length ≤ i →
  z33 l ((l.length : Nat) : Int) (i : Int) n s t ns is va aa ca acc d1 d2 d3 d4 d5 d6 d7 d8 d9 = some ⟨n, s, ⟨t, ns, is⟩, va, aa, ca, acc ++ suf⟩
 | [], i, acc, h, ha => by
  apply qyd;rw [q0t h, cF, List.append_nil]
 | m :: suf, i, acc, h, ha => by
  have hlt := q0p h;apply qyd;rw [q0c h, cT, q0a h, hm m (List.mem_of_mem_drop (i := i) (by rw [h]; simp)), bS, qlu, q0l (by simp [q08]; omega), q00 (by omega), qlk l hl hm n s t ns is va aa ca d1 d2 d3 d4 d5 d6 d7 d8 d9 suf (i + 1) _ (q06 h) (by simp; omega)];simp
structure Fresh (v : Voter) : Prop where
 tr : Fits v.Trust
 votes : v.Votes.length < 1000000
 accs : v.Accepts.length < 1000000
 confs : v.Confirms.length < 1000000
 heard : v.Heard.length < 1000000
 msgs : ∀ m ∈ v.Heard, z2j m = some m
theorem qgw {v : Voter} (h : Fresh v) : z2c v = some v := by
 apply y0s;rw [qh5 _ h.tr, bS, q6t _ h.votes, bS, q6t _ h.accs, bS, q6t _ h.confs, bS];have := qlk v.Heard h.heard h.msgs v.Node v.Seq v.Trust.Threshold v.Trust.Nodes v.Trust.Inner v.Votes v.Accepts v.Confirms 0 0 0 [] [] [] [] [] [] v.Heard 0 [] rfl (Nat.le_refl _);rw [show (0 : Int) = ((0 : Nat) : Int) from rfl] at this ⊢;rw [this, Trust.etaM]; rfl
theorem qwa {m : Message} (h : msgB m = true) : z2j m = some m :=
 qfh (q3k (q20.1 h).2.2.1).1 (q1m h).votes (q1m h).accs
theorem Ready.fresh {v : Voter} (h : Ready v) (s : Int) : Fresh { v with Seq := s } :=
 ⟨(q3k h.tr).1, by have := h.vlen; show v.Votes.length < _; omega, by have := h.alen; show v.Accepts.length < _; omega, by have := h.clen; show v.Confirms.length < _; omega, by have := h.hlen; show v.Heard.length < _; omega, fun m hm => qwa (h.msg m hm).1⟩
theorem qnp {v : Voter} (h : Ready v) (l : List Claim) (hl : l.length ≤ 128) (hv : ∀ x ∈ l, vcl x = true) (d1 d2 d3 : Int) (d4 : List Int) (d5 : List Trust) (d6 d7 d8 : List Claim) (d9 : List Message) (e1 e2 : Int) : ∀ (suf : List Claim) (i : Nat) (C : List Claim), l.drop i = suf → plainC C = true →
  z28 (allM v) l ((l.length : Nat) : Int) (i : Int) v.Node v.Seq v.Trust.Threshold v.Trust.Nodes v.Trust.Inner v.Votes v.Accepts C v.Heard d1 d2 d3 d4 d5 d6 d7 d8 d9 (viewV v).Members e1 e2 = some { v with Confirms := confC v C suf }
 | [], i, C, g, hC => by
  apply qz1;rw [q0t g, cF, Trust.etaM]; rfl
 | y :: suf, i, C, g, hC => by
  have hlt := q0p g;have hlen := h.len;have hcl := q2i hC;have hy := hv y (List.mem_of_mem_drop (i := i) (by rw [g]; simp));obtain ⟨n1, n2⟩ := h.node';have hacc : z2z ⟨(viewV v).Members⟩ v.Node ((q0x (allM v) y : Nat) : Int) = some (confB (viewV v) v.Node.toNat (q0x (allM v) y)) := by
   have := qw7 h.view (qa6 h.all y) n1;rw [n2] at this; exact this
  apply qz1;rw [q0c g, cT, q0a g, qqa _ (by omega) h.all, bS, hacc, bS, qod C y (by omega) (q0o.1 hC).1 hy, bS, q00 (by omega)];show _ = some { v with Confirms := confC v (if confB (viewV v) v.Node.toNat (q0x (allM v) y) then q0v (C ++ [y]) else C) suf };cases hc : confB (viewV v) v.Node.toNat (q0x (allM v) y) with
  | true =>
   rw [cT, if_pos rfl];exact qnp h l hl hv d1 d2 d3 d4 d5 d6 d7 d8 d9 e1 e2 suf (i + 1) _ (q06 g) (q3n _)
  | false =>
   rw [cF, if_neg (by simp)];exact qnp h l hl hv d1 d2 d3 d4 d5 d6 d7 d8 d9 e1 e2 suf (i + 1) _ (q06 g) hC
theorem qsy (d1 d2 d3 : Int) (d4 : List Int) (d5 : List Trust) (d6 d7 d8 : List Claim) (d9 : List Message) : ∀ (n : Nat) (v : Voter), Ready v → 128 - v.Accepts.length < n → ∀ r : Claim × Bool, r = (match nextV v with | some x => (x, true) | none => (⟨0, 0⟩, false)) →
  z37 r.2 v.Node v.Seq v.Trust.Threshold v.Trust.Nodes v.Trust.Inner v.Votes v.Accepts v.Confirms v.Heard d1 d2 d3 d4 d5 d6 d7 d8 d9 (viewV v).Members r.1.Topic r.1.Value = some (finish (q1z n v))
 | 0, v, h, hn, _, _ => by omega
 | n + 1, v, h, hn, r, hr => by
  rw [q1z];apply y1a;cases hx : nextV v with
  | none =>
   rw [hx] at hr; subst hr;have hh := h.hlen;simp only [cF];rw [qfd _ (by omega), bS, q47, qor, bS, qlu, q0l (by simp [q08]; omega)];have := qnp h v.Accepts h.alen h.avc d1 d2 d3 d4 d5 d6 d7 d8 d9 0 0 v.Accepts 0 v.Confirms rfl h.confs;exact this
  | some x =>
   rw [hx] at hr; subst hr;obtain ⟨h1, h2, h3, _⟩ := qax hx;have hv := q8l h1;have hr := h.withA hv h3;have hl := qs4 h.accs hv h2;have hal := h.alen;have hal' : (q0v (v.Accepts ++ [x])).length ≤ 128 := hr.alen;simp only [cT];rw [show Claim.mk x.Topic x.Value = x from rfl, qod _ _ (by omega) h.avc hv, bS];have hw : Voter.mk v.Node v.Seq (Trust.mk v.Trust.Threshold v.Trust.Nodes v.Trust.Inner) v.Votes (q0v (v.Accepts ++ [x])) v.Confirms v.Heard = withA v x := by rw [Trust.etaM]; rfl
   rw [hw];have hn' : z4b (withA v x) ⟨(viewV v).Members⟩ = _ := qkt hr;rw [hn', bS];exact qsy d1 d2 d3 d4 d5 d6 d7 d8 d9 n (withA v x) hr (by show 128 - (q0v (v.Accepts ++ [x])).length < n; omega) _ rfl
theorem qo0 {v : Voter} (h : Ready v) : z4f v = some (q0b v) := by
 have hh := h.hlen;apply y0x;have hv : z40 v.Node v.Trust v.Heard = some (viewV v) := qw6 h.node h.tr v.Heard (by omega) h.msg;rw [hv, bS, qkt h, bS];exact qsy _ _ _ _ _ _ _ _ _ 200 v h (by omega) _ rfl
noncomputable def turnV (b v : Voter) : Voter := if b.Trust = (q0b v).Trust ∧ b.Votes = (q0b v).Votes ∧ b.Accepts = (q0b v).Accepts then q0b v else { q0b v with Seq := (q0b v).Seq + 1 }
theorem qhw {b v : Voter} (hb : Ready b) (h : Ready v) : z2t b v = some (turnV b v) := by
 have hs := h.settle;have h1 := hb.vlen;have h2 := hb.alen;have hq := hs.seq;have f0 : z2c (q0b v) = some (q0b v) := qgw (hs.fresh (q0b v).Seq);have f1 : z2c { q0b v with Seq := (q0b v).Seq + 1 } = some { q0b v with Seq := (q0b v).Seq + 1 } := qgw (hs.fresh _);have hw : Voter.mk (q0b v).Node (addI .i64 (q0b v).Seq 1) (Trust.mk (q0b v).Trust.Threshold (q0b v).Trust.Nodes (q0b v).Trust.Inner) (q0b v).Votes (q0b v).Accepts (q0b v).Confirms (q0b v).Heard = { q0b v with Seq := (q0b v).Seq + 1 } := by rw [Trust.etaM, q3b (by omega) (by omega)]
 apply y1g;rw [qo0 h, bS, qwf _ (q3i hb.tr), bS, qmx _ _ (by omega), bS, qmx _ _ (by omega), bS, hw, f1, bS, f0, bS, q47, q47, turnV];by_cases e1 : b.Trust = (q0b v).Trust <;> by_cases e2 : b.Votes = (q0b v).Votes <;> by_cases e3 : b.Accepts = (q0b v).Accepts <;> simp [e1, e2, e3]
section
variable {b : Voter} (hb : SmallV b) (hbs : 0 ≤ b.Seq ∧ b.Seq < 4611686018427387904) (d1 d2 d3 : Int) (d4 : List Int) (d5 : List Trust) (d6 d7 d8 : List Claim) (d9 : List Message)
include hb hbs
end
def q7l : Voter := ⟨0, 0, ⟨0, [], []⟩, [], [], [], []⟩
noncomputable def voteV (v : Voter) (x : Claim) : Voter × Int :=
 if q3v v = false ∨ vcl x = false then (q7l, 1)
 else if ∃ y ∈ v.Votes ++ v.Accepts, Contra x y then (q7l, 14)
 else if x ∈ v.Votes then (v, 0) else (turnV v { v with Votes := q0v (v.Votes ++ [x]) }, 0)
theorem qqf (l : List Claim) (hl : l.length < 1152921504606846976) (x : Claim) : ∀ (suf : List Claim) (i : Nat), l.drop i = suf → ∃ r : Int, z0u l ((l.length : Nat) : Int) (i : Int) x.Topic x.Value = some (r, x.Topic, x.Value) ∧ leB 0 r = decide (∃ y ∈ suf, Contra x y)
 | [], i, h => by
  refine ⟨-1, quy _ _ _ _ _ _ ?_, by simp [leB]⟩;rw [q0t h]; rfl
 | y :: suf, i, h => by
  have hlt := q0p h;obtain ⟨r, h1, h2⟩ := qqf l hl x suf (i + 1) (q06 h);have hf : z4m y x.Topic x.Value = some (decide (Contra x y), x.Topic, x.Value) := y2j _ _ _ _ (by rw [show Claim.mk x.Topic x.Value = x from rfl, qqn]; rfl);by_cases hc : Contra x y
  ·refine ⟨i, quy _ _ _ _ _ _ ?_, by simp [leB, hc]⟩;rw [q0c h, cT, q0a h, hf]; simp [hc]
  ·refine ⟨r, quy _ _ _ _ _ _ ?_, by rw [h2]; simp [hc]⟩;rw [q0c h, cT, q0a h, hf, bS, q00 (by omega)];simp only [hc, decide_false, cF];exact h1
theorem qv6 (l : List Claim) (hl : l.length < 1152921504606846976) (x : Claim) : z1c l x.Topic x.Value = some (decide (∃ y ∈ l, Contra x y), x.Topic, x.Value) := by
 obtain ⟨r, h1, h2⟩ := qqf l hl x l 0 rfl;apply y4j;have h3 : z1j l x.Topic x.Value = _ := y4b _ _ _ _ h1;rw [h3, bS, h2]
theorem Ready.withV {v : Voter} (h : Ready v) (x : Claim) : Ready { v with Votes := q0v (v.Votes ++ [x]) } :=
 ⟨h.node, h.seq, h.tr, q3n _, h.accs, h.confs, h.cons, h.sub, h.heard⟩
theorem qg2 {v : Voter} (hs : SmallV v) (x : Claim) : z3v v x = some (voteV v x) := by
 apply y1t;rw [qht hs, bS, qcc, bS, voteV];cases hv : q3v v with
 | false => rfl
 | true =>
  cases hx : vcl x with
  | false => rfl
  | true =>
   obtain ⟨h, hc⟩ := q0y.1 hv;have h1 := h.vlen;have h2 := h.alen;have hw : Voter.mk v.Node v.Seq (Trust.mk v.Trust.Threshold v.Trust.Nodes v.Trust.Inner) (q0v (v.Votes ++ [x])) v.Accepts v.Confirms v.Heard = { v with Votes := q0v (v.Votes ++ [x]) } := by rw [Trust.etaM]
   simp only [nT, cF, Bool.true_eq_false, or_self, if_false];rw [qv6 _ (by omega), bS, qv6 _ (by omega), bS]
   dsimp only
   rw [show Claim.mk x.Topic x.Value = x from rfl, qgx _ (by omega), bS, qgw (h.fresh v.Seq), bS, qod _ _ (by omega) (q0o.1 h.votes).1 hx, bS, hw, qhw h (h.withV x), bS, q47, q47];by_cases e1 : ∃ y ∈ v.Votes, Contra x y
   ·have : ∃ y ∈ v.Votes ++ v.Accepts, Contra x y := by obtain ⟨y, h, h'⟩ := e1; exact ⟨y, by simp [h], h'⟩
    rw [if_pos this]; simp only [e1, decide_true, cT]; rfl
   ·by_cases e2 : ∃ y ∈ v.Accepts, Contra x y
    ·have : ∃ y ∈ v.Votes ++ v.Accepts, Contra x y := by obtain ⟨y, h, h'⟩ := e2; exact ⟨y, by simp [h], h'⟩
     rw [if_pos this]; simp only [e1, e2, decide_true, decide_false, cT, cF]; rfl
    ·have : ¬ ∃ y ∈ v.Votes ++ v.Accepts, Contra x y := by
      rintro ⟨y, h, h'⟩;rcases List.mem_append.1 h with h | h
      ·exact e1 ⟨y, h, h'⟩
      ·exact e2 ⟨y, h, h'⟩
     rw [if_neg this];by_cases e3 : x ∈ v.Votes
     ·simp only [e1, e2, e3, decide_true, decide_false, cT, cF, if_true]
     ·simp only [e1, e2, e3, decide_false, cF, if_false]
def qll (n : Int) (t : Trust) : Voter × Int := if inR n = false then (q7l, 5) else if verr t ≠ 0 then (q7l, verr t) else (⟨n, 1, t, [], [], [], []⟩, 0)
theorem qi7 (n : Int) {t : Trust} (ht : Small t) : z4d n t = some (qll n t) := by
 apply y2v;rw [qev _ ht, bS, qll, inR, ltB, leB];by_cases e1 : n < 0
 ·have : ¬ 0 ≤ n := by omega
  simp [e1, this]; rfl
 ·have e1' : 0 ≤ n := by omega
  by_cases e2 : 10 ≤ n
  ·have : ¬ n < 10 := by omega
   simp [e1, e2, this]; rfl
  ·have e2' : n < 10 := by omega
   by_cases e : verr t = 0
   ·rw [qh5 _ (q3k ((qcm t).1 e)).1];simp [e1, e2, e1', e2', e, neB]
   ·simp [e1, e2, e1', e2', e, neB]; rfl
def hearL (m : Message) : List Message → List Message
 | [] => [m]
 | x :: r => if x.Node < m.Node then x :: hearL m r else if x.Node = m.Node then m :: r else m :: x :: r
def oldB (l : List Message) (m : Message) : Bool := l.any fun x => decide (x.Node = m.Node) && decide (m.Seq ≤ x.Seq)
noncomputable def hearV (v : Voter) (m : Message) : Voter × Int :=
 if q3v v = false ∨ msgB m = false ∨ m.Node = v.Node then (q7l, 1)
 else if oldB v.Heard m = true then (q7l, 9) else (turnV v { v with Heard := hearL m v.Heard }, 0)
theorem qfn {n : Int} {m : Message} (hm : msgB m = true) (hn : m.Node ≠ n) : ∀ {l : List Message} {q : Option Int}, q24 n q l = true → (∀ k, q = some k → k < m.Node) → q24 n q (hearL m l) = true
 | [], q, _, hq => by
  cases q with
  | none => simp [hearL, q24, hm, hn]
  | some k => simp [hearL, q24, hm, hn, hq k rfl]
 | y :: r, q, h, hq => by
  have hi := q0g.1 h;rw [hearL];split
  ·rename_i hlt;have hr : q24 n (some y.Node) r = true := by
    rw [List.pairwise_cons] at hi;exact q0g.2 ⟨fun x hx => hi.1 x (by simp [hx]), fun k hk x hx => by cases hk; exact hi.2.2.1 x hx, hi.2.2.2⟩
   have ih := qfn hm hn hr (fun k hk => by cases hk; exact hlt);have hj := q0g.1 ih;refine q0g.2 ⟨fun x hx => ?_, fun k hk x hx => ?_, List.pairwise_cons.2 ⟨fun x hx => hj.2.1 _ rfl x hx, hj.2.2⟩⟩
   ·rcases List.mem_cons.1 hx with e | hx
    ·subst e; exact hi.1 x (by simp)
    ·exact hj.1 x hx
   ·have hy := hi.2.1 k hk y (by simp);rcases List.mem_cons.1 hx with e | hx
    ·subst e; exact hy
    ·exact Int.lt_trans hy (hj.2.1 _ rfl x hx)
  ·rename_i hge;rw [List.pairwise_cons] at hi;split
   ·rename_i heq;refine q0g.2 ⟨fun x hx => ?_, fun k hk x hx => ?_, List.pairwise_cons.2 ⟨fun x hx => by rw [← heq]; exact hi.2.2.1 x hx, hi.2.2.2⟩⟩
    ·rcases List.mem_cons.1 hx with e | hx
     ·subst e; exact ⟨hm, hn⟩
     ·exact hi.1 x (by simp [hx])
    ·rcases List.mem_cons.1 hx with e | hx
     ·subst e; exact hq k hk
     ·exact hi.2.1 k hk x (by simp [hx])
   ·rename_i hne;have hlt : m.Node < y.Node := by omega
    refine q0g.2 ⟨fun x hx => ?_, fun k hk x hx => ?_, List.pairwise_cons.2 ⟨fun x hx => ?_, List.pairwise_cons.2 hi.2.2⟩⟩
    ·rcases List.mem_cons.1 hx with e | hx
     ·subst e; exact ⟨hm, hn⟩
     ·exact hi.1 x hx
    ·rcases List.mem_cons.1 hx with e | hx
     ·subst e; exact hq k hk
     ·exact hi.2.1 k hk x hx
    ·rcases List.mem_cons.1 hx with e | hx
     ·subst e; exact hlt
     ·exact Int.lt_trans hlt (hi.2.2.1 x hx)
theorem Ready.withH {v : Voter} (h : Ready v) {m : Message} (hm : msgB m = true) (hn : m.Node ≠ v.Node) : Ready { v with Heard := hearL m v.Heard } :=
 ⟨h.node, h.seq, h.tr, h.votes, h.accs, h.confs, h.cons, h.sub, qfn hm hn h.heard (fun k hk => by cases hk)⟩
def pos (k : Int) : List Message → Nat
 | [] => 0
 | x :: r => if x.Node < k then pos k r + 1 else 0
theorem quw (k : Int) : ∀ l : List Message, pos k l ≤ l.length
 | [] => Nat.le_refl _
 | x :: r => by
  rw [pos]; split
  ·simp; exact quw k r
  ·simp
theorem qiv {k : Int} : ∀ {l : List Message}, l.Pairwise (fun a b => a.Node < b.Node) → ∀ (i : Nat) (x : Message), l[i]? = some x → (x.Node < k ↔ i < pos k l)
 | [], _, i, x, h => by simp at h
 | y :: r, hp, i, x, h => by
  rw [List.pairwise_cons] at hp;rw [pos];cases i with
  | zero =>
   simp at h; subst h;split <;> simp_all
  | succ i =>
   have h' : r[i]? = some x := by simpa using h
   have hyx := hp.1 x (List.mem_of_getElem? h');split
   ·rw [qiv hp.2 i x h']; omega
   ·constructor
    ·intro g; omega
    ·intro g; omega
def q6l (k : Int) (l : List Message) : Bool := match l[pos k l]? with | some x => decide (x.Node = k) | none => false
theorem qm7 {m : Message} : ∀ {l : List Message}, hearL m l = if q6l m.Node l = true then l.set (pos m.Node l) m else l.take (pos m.Node l) ++ m :: l.drop (pos m.Node l)
 | [] => by simp [hearL, q6l, pos]
 | x :: r => by
  rw [hearL];by_cases h1 : x.Node < m.Node
  ·have hp : pos m.Node (x :: r) = pos m.Node r + 1 := by rw [pos, if_pos h1]
   have hf : q6l m.Node (x :: r) = q6l m.Node r := by simp [q6l, hp]
   rw [if_pos h1, qm7 (l := r), hp, hf];split <;> simp
  ·have hp : pos m.Node (x :: r) = 0 := by rw [pos, if_neg h1]
   have hf : q6l m.Node (x :: r) = decide (x.Node = m.Node) := by simp [q6l, hp]
   rw [if_neg h1, hp, hf];by_cases h2 : x.Node = m.Node <;> simp [h2]
theorem qxg {m : Message} {l : List Message} (hp : l.Pairwise (fun a b => a.Node < b.Node)) : oldB l m = match l[pos m.Node l]? with | some x => decide (x.Node = m.Node) && decide (m.Seq ≤ x.Seq) | none => false := by
 cases hx : l[pos m.Node l]? with
 | none =>
  rw [oldB, List.any_eq_false];intro x hx';obtain ⟨i, hi, rfl⟩ := List.mem_iff_getElem.1 hx';have h1 := (qiv (k := m.Node) hp i l[i] (by simp [hi]));have h2 := List.getElem?_eq_none_iff.1 hx;have : l[i].Node < m.Node := h1.2 (by omega);simp; omega
 | some y =>
  show oldB l m = (decide (y.Node = m.Node) && decide (m.Seq ≤ y.Seq));rw [oldB, Bool.eq_iff_iff, List.any_eq_true];constructor
  ·rintro ⟨x, hx', h⟩;simp only [aT, dT'] at h;obtain ⟨i, hi, rfl⟩ := List.mem_iff_getElem.1 hx';have h1 := (qiv (k := m.Node) hp i l[i] (by simp [hi]));have h3 := (qiv (k := m.Node) hp _ y hx);have hge : pos m.Node l ≤ i := by
    have : ¬ l[i].Node < m.Node := by omega
    rw [h1] at this; omega
   have hpl := (List.getElem?_eq_some_iff.1 hx).1;have : i = pos m.Node l := by
    by_cases e : i = pos m.Node l
    ·exact e
    ·have hlt : pos m.Node l < i := by omega
     have := List.pairwise_iff_getElem.1 hp _ _ hpl hi hlt;have h4 : l[pos m.Node l] = y := (List.getElem?_eq_some_iff.1 hx).2;rw [h4] at this;have : ¬ y.Node < m.Node := by rw [h3]; omega
     omega
   subst this;have h4 : l[pos m.Node l] = y := (List.getElem?_eq_some_iff.1 hx).2;rw [h4] at h;simp [h]
  ·intro h;exact ⟨y, List.mem_of_getElem? hx, h⟩
theorem y3t : ∀ i : Fin 12, ∀ j : Fin 12, IntKind.wrap .i64 (shrI .u64 (IntKind.wrap .u64 (addI .i64 ((i.val : Nat) : Int) ((j.val : Nat) : Int))) 1) = (((i.val + j.val) / 2 : Nat) : Int) := by decide +kernel
theorem qqd (x : Message) (k : Int) : z44 x k = some (if x.Node < k then -1 else if k < x.Node then 1 else 0) := y1s _ _ _ (by rw [qhb]; rfl)
theorem qu5 {l : List Message} (hl : l.length ≤ 10) (hp : l.Pairwise (fun a b => a.Node < b.Node)) (k : Int) : ∀ (n i j : Nat), j - i ≤ n → i ≤ pos k l → pos k l ≤ j → j ≤ l.length →
  z0f l k ((l.length : Nat) : Int) (i : Int) (j : Int) = some (((pos k l : Nat) : Int), q6l k l)
 | n, i, j, hn, hi, hj, hjl => by
  apply y1x;by_cases hij : i < j
  ·obtain ⟨n, rfl⟩ : ∃ m, n = m + 1 := ⟨n - 1, by omega⟩;have hmid := y3t ⟨i, by omega⟩ ⟨j, by omega⟩
   dsimp only at hmid
   have hml : (i + j) / 2 < l.length := by omega
   have hg : l[(i + j) / 2]? = some l[(i + j) / 2] := by simp [hml]
   have hpl := qiv (k := k) hp _ _ hg;rw [q04 (by omega), cT, hmid, q0z (by omega) (by rw [tN]; exact hg), qqd, bS];by_cases h1 : l[(i + j) / 2].Node < k
   ·rw [if_pos h1, q04 (by decide), cT, q00 (by omega)];exact qu5 hl hp k n ((i + j) / 2 + 1) j (by omega) (by have := hpl.1 h1; omega) hj hjl
   ·rw [if_neg h1, q01 (by split <;> decide), cF];exact qu5 hl hp k n i ((i + j) / 2) (by omega) hi (by have := fun h => h1 (hpl.2 h); omega) (by omega)
  ·have hij' : i = pos k l := by omega
   subst hij';rw [q01 (by omega), cF];unfold q6l;by_cases he : pos k l < l.length
   ·have hg : l[pos k l]? = some l[pos k l] := by simp [he]
    have hpl := qiv (k := k) hp _ _ hg;have h1 : ¬ l[pos k l].Node < k := by rw [hpl]; omega
    rw [q04 (by omega), cT, q0z (by omega) (by rw [tN]; exact hg), qqd, bS, hg, if_neg h1];by_cases h2 : k < l[pos k l].Node
    ·have : ¬ l[pos k l].Node = k := by omega
     simp [h2, this, eqB]
    ·have : l[pos k l].Node = k := by omega
     simp [this, eqB]
   ·rw [q01 (by omega), cF, List.getElem?_eq_none (by omega)]
theorem y2k {l : List Message} (hl : l.length ≤ 10) (hp : l.Pairwise (fun a b => a.Node < b.Node)) (k : Int) : z17 l k = some (((pos k l : Nat) : Int), q6l k l) := by
 apply y3g;exact qu5 hl hp k l.length 0 l.length (by omega) (by omega) (quw k l) (Nat.le_refl _)
theorem qs6 (l : List Message) : (l.map q19).all (q48 7) = true := by
 rw [List.all_eq_true]; intro x hx; obtain ⟨y, _, rfl⟩ := List.mem_map.1 hx; rfl
theorem qrc (l : List Message) (hl : l.length < 1000000) (m : Message) (i : Nat) (hi : i ≤ l.length) : z3i (i : Int) [m] l = some (l.take i ++ m :: l.drop i, ()) := by
 refine qcb (T := tn) (m := q6n 7) sigOk (by kernel_rfl) rfl ?_;show libA (q6n 7) [.ref 0, .d (.v (.int .i64 i)), .d (.list [q19 m])] [[.own (l.map q19) false]] = some (.d (.list ((l.take i ++ m :: l.drop i).map q19)), [[.undef]]);unfold libA q6n;have h1 : (i : Int) ≤ ((l.map q19).length : Int) := by simp; omega
 have h2 : (l.map q19).length < q08 := by simp [q08]; omega
 have h3 : q48 7 (q19 m) = true := rfl;simp only [Int.natCast_nonneg, h1, h2, h3, qs6, and_self, if_true, tN];simp only [List.map_append, List.map_cons, List.map_take, List.map_drop];rfl
theorem qav {v : Voter} (hs : SmallV v) {m : Message} (hm : SmallM m) : z3w v m = some (hearV v m) := by
 apply y0k;rw [qht hs, bS, qco hm, bS, hearV];cases hv : q3v v with
 | false => rfl
 | true =>
  cases hx : msgB m with
  | false => rfl
  | true =>
   obtain ⟨h, hc⟩ := q0y.1 hv;simp only [nT, cF, Bool.true_eq_false, false_or];by_cases hn : m.Node = v.Node
   ·rw [if_pos hn, hn, q5k]; rfl
   ·rw [if_neg hn, q7x hn, cF];have hp := (q0g.1 h.heard).2.2;have hh := h.hlen;rw [y2k hh hp, bS, qxg hp, qfd _ (by omega)];have hpl := quw m.Node v.Heard;have hw : ∀ H, Voter.mk v.Node v.Seq (Trust.mk v.Trust.Threshold v.Trust.Nodes v.Trust.Inner) v.Votes v.Accepts v.Confirms H = { v with Heard := H } := fun H => by rw [Trust.etaM]
    have ht := qhw h (h.withH hx hn);rw [qm7] at ht ⊢;simp only [bS, qlu];cases hf : q6l m.Node v.Heard with
    | true =>
     rw [hf, if_pos rfl] at ht;unfold q6l at hf;cases hg : v.Heard[pos m.Node v.Heard]? with
     | none => rw [hg] at hf; cases hf
     | some y =>
      rw [hg] at hf;have hy : y.Node = m.Node := by simpa using hf
      simp only [cT, if_true];rw [q0z (by omega) (by rw [tN]; exact hg), q0z (by omega) (by rw [tN]; exact hg), q3g (by rw [tN]; exact hg), tN, hw, ht, bS, q47];by_cases hq : m.Seq ≤ y.Seq <;> simp [leB, hy, hq] <;> rfl
    | false =>
     rw [hf, if_neg (by simp)] at ht;unfold q6l at hf;have hold : (match v.Heard[pos m.Node v.Heard]? with | some x => decide (x.Node = m.Node) && decide (m.Seq ≤ x.Seq) | none => false) = false := by
      cases hg : v.Heard[pos m.Node v.Heard]? with
      | none => rfl
      | some y => rw [hg] at hf; simp only at hf; simp [hf]
     simp only [cF, hold, fT, if_false];rw [qrc _ (by omega) m _ hpl, bS, hw, ht, bS, q47]
theorem qx1 {v : Voter} (ht : Fits v.Trust) (h1 : v.Votes.length < 1000000) (h2 : v.Accepts.length < 1000000) : z4x v = some (say v) := by
 apply y35;rw [qor, bS, qfh ht h1 h2, bS, qlu]
theorem q2w (v : Voter) : (q0b v).Node = v.Node ∧ (q0b v).Seq = v.Seq ∧ (q0b v).Trust = v.Trust ∧ (q0b v).Votes = v.Votes ∧ (q0b v).Heard = v.Heard := by
 obtain ⟨h1, h2, h3, h4, _, h6⟩ := q8q 200 v;exact ⟨h1, h2, h3, h4, h6⟩
theorem qh9 : ∀ (n : Nat) (v : Voter), Ready v → ∀ x ∈ v.Accepts, x ∈ (q1z n v).Accepts
 | 0, v, h, x, hx => hx
 | n + 1, v, h, x, hx => by
  rw [q1z];cases hy : nextV v with
  | none => exact hx
  | some y =>
   obtain ⟨h1, h2, h3, _⟩ := qax hy;have hv := q8l h1;exact qh9 n (withA v y) (h.withA hv h3) x ((qcr h.avc hv).2 (.inl hx))
theorem qlw {v : Voter} (h : Ready v) {y : Claim} : y ∈ (q0b v).Confirms ↔ y ∈ v.Confirms ∨ y ∈ (q0b v).Accepts ∧ confB (viewV (q0b v)) (q0b v).Node.toNat (q0x (allM (q0b v)) y) = true := by
 have hs := (q5o 200 v h (by omega)).1;obtain ⟨_, _, _, _, h5, _⟩ := q8q 200 v;show y ∈ confC (q1z 200 v) (q1z 200 v).Confirms (q1z 200 v).Accepts ↔ _;rw [qbl _ _ _ (q0o.1 hs.confs).1 hs.avc, h5];exact Iff.rfl
theorem qnb {v : Voter} (h : Ready v) : ∀ x ∈ known (q0b v), canB (q0b v) x = false := fun x hx => qt2 (q5o 200 v h (by omega)).2 x hx
theorem Ready.withS {v : Voter} (h : Ready v) {s : Int} (h1 : 1 ≤ s) (h2 : s ≤ 1000000) : Ready { v with Seq := s } := ⟨h.node, ⟨h1, h2⟩, h.tr, h.votes, h.accs, h.confs, h.cons, h.sub, h.heard⟩
theorem q50 (b v : Voter) : ∃ s : Int, (s = v.Seq ∨ s = v.Seq + 1) ∧ turnV b v = { q0b v with Seq := s } ∧ (s = v.Seq ↔ b.Trust = v.Trust ∧ b.Votes = v.Votes ∧ b.Accepts = (q0b v).Accepts) := by
 obtain ⟨h1, h2, h3, h4, h5⟩ := q2w v;rw [turnV, h3, h4, h2];split
 ·rename_i h;exact ⟨v.Seq, .inl rfl, by rw [← h2], fun _ => h, fun _ => rfl⟩
 ·rename_i h;exact ⟨v.Seq + 1, .inr rfl, rfl, fun e => by omega, fun e => absurd e h⟩
structure Step (v w : Voter) : Prop where
 node : w.Node = v.Node
 seq : w.Seq = v.Seq ∨ w.Seq = v.Seq + 1
 votes : ∀ x ∈ v.Votes, x ∈ w.Votes
 accs : ∀ x ∈ v.Accepts, x ∈ w.Accepts
 confs : ∀ x ∈ v.Confirms, x ∈ w.Confirms
 ready : w.Seq ≤ 1000000 → q3v w = true
 small : SmallV w
theorem Ready.smallS {v : Voter} (h : Ready v) (s : Int) : SmallV { v with Seq := s } := ⟨h.small.tr, h.small.votes, h.small.accs, h.small.confs, h.small.heard, h.small.msgs⟩
theorem qkx {b v u : Voter} (hu : Ready u) (hc : consC u.Votes = true) (hn : u.Node = v.Node) (hs : u.Seq = v.Seq) (hv : ∀ x ∈ v.Votes, x ∈ u.Votes) (ha : u.Accepts = v.Accepts) (hcf : u.Confirms = v.Confirms) : Step v (turnV b u) := by
 obtain ⟨s, h1, h2, _⟩ := q50 b u;obtain ⟨g1, g2, g3, g4, g5⟩ := q2w u;have hr := hu.settle;rw [h2];refine ⟨g1.trans hn, by rw [← hs]; exact h1, fun x hx => by show x ∈ (q0b u).Votes; rw [g4]; exact hv x hx, fun x hx => qh9 200 u hu x (by rw [ha]; exact hx), fun x hx => (qlw hu).2 (.inl (by rw [hcf]; exact hx)), fun hle => ?_, hr.smallS s⟩;have h3 := hu.seq;exact q0y.2 ⟨hr.withS (by omega) hle, by show consC (q0b u).Votes = true; rw [g4]; exact hc⟩
theorem qut {v : Voter} (hv : q3v v = true) : Step v v := ⟨rfl, .inl rfl, fun _ h => h, fun _ h => h, fun _ h => h, fun _ => hv, (q0y.1 hv).1.small⟩
theorem qth {v : Voter} (hv : q3v v = true) {x : Claim} (h : (voteV v x).2 = 0) : Step v (voteV v x).1 ∧ (voteV v x).1.Heard = v.Heard ∧ (voteV v x).1.Trust = v.Trust := by
 obtain ⟨hr, hc⟩ := q0y.1 hv;unfold voteV at h ⊢;split at h
 ·simp at h
 ·rename_i h1;rw [if_neg h1];split at h
  ·simp at h
  ·rename_i h2;rw [if_neg h2];split
   ·exact ⟨qut hv, rfl, rfl⟩
   ·have hx : vcl x = true := by cases hx : vcl x with | true => rfl | false => exact absurd (.inr hx) h1
    have hm := fun y => qcr (y := y) (q0o.1 hr.votes).1 hx
    refine ⟨qkx (hr.withV x) ?_ rfl rfl (fun y hy => (hm y).2 (.inl hy)) rfl rfl, ?_, ?_⟩
    ·have : consC (v.Votes ++ [x]) = true := by
      rw [qd3 hc, dT'];exact fun y hy hcc => h2 ⟨y, by simp [hy], hcc⟩
     rw [q6b] at this ⊢;intro a ha b hb;exact this a (q1h.1 ha).2 b (q1h.1 hb).2
    ·obtain ⟨s, _, h4, _⟩ := q50 v { v with Votes := q0v (v.Votes ++ [x]) }
     dsimp only
     rw [h4]; exact (q2w _).2.2.2.2
    ·obtain ⟨s, _, h4, _⟩ := q50 v { v with Votes := q0v (v.Votes ++ [x]) }
     dsimp only
     rw [h4]; exact (q2w _).2.2.1
theorem qtg {v : Voter} (hv : q3v v = true) {m : Message} (hm : msgB m = true) (hn : m.Node ≠ v.Node) (ho : oldB v.Heard m = false) : hearV v m = (turnV v { v with Heard := hearL m v.Heard }, 0) := by
 unfold hearV;rw [if_neg (by rintro (h | h | h); rw [hv] at h; cases h; rw [hm] at h; cases h; exact hn h), if_neg (by rw [ho]; simp)]
theorem quk {v : Voter} {m : Message} (h : (hearV v m).2 = 0) : msgB m = true ∧ m.Node ≠ v.Node ∧ oldB v.Heard m = false := by
 unfold hearV at h;split at h
 ·simp at h
 ·rename_i h1;split at h
  ·simp at h
  ·rename_i h2;refine ⟨?_, fun e => h1 (.inr (.inr e)), ?_⟩
   ·cases hm : msgB m with | true => rfl | false => exact absurd (.inr (.inl hm)) h1
   ·cases ho : oldB v.Heard m with | false => rfl | true => exact absurd ho h2
theorem qs9 {v : Voter} (hv : q3v v = true) {m : Message} (h : (hearV v m).2 = 0) : Step v (hearV v m).1 ∧ (hearV v m).1.Heard = hearL m v.Heard := by
 obtain ⟨hr, hc⟩ := q0y.1 hv;obtain ⟨h1, h2, h3⟩ := quk h;rw [qtg hv h1 h2 h3];refine ⟨qkx (hr.withH h1 h2) hc rfl rfl (fun _ h => h) rfl rfl, ?_⟩;obtain ⟨s, _, h4, _⟩ := q50 v { v with Heard := hearL m v.Heard }
 dsimp only
 rw [h4]; exact (q2w _).2.2.2.2
theorem qe4 : SmallV q7l := ⟨by simp [q7l, Small, size, sizes], by simp [q7l], by simp [q7l], by simp [q7l], by simp [q7l], fun m hm => by cases hm⟩
theorem qrz {b u : Voter} (hu : Ready u) : SmallV (turnV b u) := by
 obtain ⟨s, _, h2, _⟩ := q50 b u;rw [h2]; exact hu.settle.smallS s
theorem qry {v : Voter} (hs : SmallV v) (x : Claim) : SmallV (voteV v x).1 := by
 unfold voteV;split
 ·exact qe4
 ·rename_i h;split
  ·exact qe4
  ·split
   ·exact hs
   ·refine qrz (Ready.withV (q0y.1 ?_).1 x);cases hv : q3v v with | true => rfl | false => exact absurd (.inl hv) h
theorem qfx {n : Int} {t : Trust} (hn : inR n = true) (ht : valid t = true) : qll n t = (⟨n, 1, t, [], [], [], []⟩, 0) ∧ q3v ⟨n, 1, t, [], [], [], []⟩ = true := by
 constructor
 ·rw [qll, if_neg (by rw [hn]; simp), if_neg (by rw [(qcm t).2 ht]; simp)]
 ·rw [q0y];exact ⟨⟨hn, ⟨by show (1 : Int) ≤ 1; omega, by show (1 : Int) ≤ 1000000; omega⟩, ht, rfl, rfl, rfl, by simp [consC], (fun x hx => by cases hx), rfl⟩, by simp [consC]⟩
def exT : Trust := ⟨1, [3], []⟩
def exV : Voter := ⟨3, 1, exT, [], [], [], []⟩
def exU : Voter := ⟨3, 1, exT, [⟨1, 2⟩], [], [], []⟩
theorem qly : (q0b exU).Accepts = [⟨1, 2⟩] ∧ (q0b exU).Confirms = [⟨1, 2⟩] := by decide +kernel
theorem qbu : valid exT = true ∧ q3v exV = true := by decide +kernel
theorem y1o : q0v ([] ++ [⟨1, 2⟩]) = [(⟨1, 2⟩ : Claim)] := by decide +kernel
theorem qzu : turnV exV exU = ⟨3, 2, exT, [⟨1, 2⟩], [⟨1, 2⟩], [⟨1, 2⟩], []⟩ := by
 obtain ⟨h1, h2, h3, h4, h5⟩ := q2w exU;rw [turnV, if_neg (by rw [h4]; rintro ⟨_, h, _⟩; simp [exV, exU] at h), h2];have e : q0b exU = ⟨(q0b exU).Node, (q0b exU).Seq, (q0b exU).Trust, (q0b exU).Votes, (q0b exU).Accepts, (q0b exU).Confirms, (q0b exU).Heard⟩ := rfl;rw [e, h1, h3, h4, h5, qly.1, qly.2];rfl
theorem y0a : voteV exV ⟨1, 2⟩ = (⟨3, 2, exT, [⟨1, 2⟩], [⟨1, 2⟩], [⟨1, 2⟩], []⟩, 0) := by
 have hw : ({ exV with Votes := q0v (exV.Votes ++ [⟨1, 2⟩]) } : Voter) = exU := by
  show (⟨3, 1, exT, q0v ([] ++ [⟨1, 2⟩]), [], [], []⟩ : Voter) = exU;rw [y1o]; rfl
 rw [voteV, if_neg (by rw [qbu.2]; decide), if_neg (by simp [exV]), if_neg (by simp [exV]), hw, qzu]
theorem qw1 : (voteV ⟨3, 2, exT, [⟨1, 2⟩], [⟨1, 2⟩], [⟨1, 2⟩], []⟩ ⟨1, 3⟩).2 = 14 := by
 have : q3v ⟨3, 2, exT, [⟨1, 2⟩], [⟨1, 2⟩], [⟨1, 2⟩], []⟩ = true := by decide +kernel
 rw [voteV, if_neg (by rw [this]; decide), if_pos ⟨⟨1, 2⟩, by simp, by decide⟩]
theorem qkq {n : Int} (h1 : 1 ≤ n) (h2 : n ≤ 10) {l : List Int} {i : Int} (h : q1e l i) : ∃ t j, z4q n 2 l i = some (t, l, j) ∧ valid t = true ∧ q1e l j := by
 obtain ⟨t, j, g1, g2, _, g4⟩ := qwc h1 h2 1 (by decide) h;exact ⟨t, j, g1, g2.1, g4⟩
structure Gone (v : Voter) (k : Nat) : Prop where
 valid : q3v v = true
 seq : v.Seq ≤ (k : Int) + 1
theorem Gone.step {v w : Voter} {k : Nat} (h : Gone v k) (hk : k < 1000) (hs : Step v w) : Gone w (k + 1) := by
 have := h.seq;have := hs.seq;exact ⟨hs.ready (by omega), by omega⟩
theorem Gone.up {v : Voter} {k : Nat} (h : Gone v k) : Gone v (k + 1) := ⟨h.valid, by have := h.seq; omega⟩
theorem qzi : law19_awake = some true := by
 have ht : Small (⟨1, [3], []⟩ : Trust) := q3i qbu.1;have hs : qll 3 ⟨1, [3], []⟩ = (exV, 0) := (qfx (n := 3) (t := exT) rfl qbu.1).1;have h1 := (q0y.1 qbu.2).1;have hv : voteV exV ⟨1, 2⟩ = _ := y0a;have h2 : SmallV ⟨3, 2, exT, [⟨1, 2⟩], [⟨1, 2⟩], [⟨1, 2⟩], []⟩ := by have := qry h1.small ⟨1, 2⟩; rw [hv] at this; exact this
 apply law19_awake_le;rw [qi7 3 ht, hs, bS]
 dsimp only
 rw [qg2 h1.small, hv, bS]
 dsimp only
 rw [qg2 h2, bS, qw1, qx1 (q3k qbu.1).1 (by simp) (by simp)];rfl
structure Played (v : Voter) (k : Nat) : Prop where
 gone : Gone v k
 node : 0 ≤ v.Node ∧ v.Node < 4
 late : ∀ m ∈ v.Heard, m.Seq ≤ 5 * (k : Int) + 5
theorem Played.up {v : Voter} {k : Nat} (h : Played v k) : Played v (k + 1) := ⟨h.gone.up, h.node, fun m hm => by have := h.late m hm; omega⟩
section
variable (n0 : Int) (ws : List Voter) (c i : Int) (raw : Voter) (m : Message) (x : Claim) (y : Trust) (v : Voter) (z : Message) {l : List Int}
end
theorem qul (u : Voter) (s : Int) (x : Claim) : votes (allM { u with Seq := s }) x = votes (allM u) x := by
 simp only [votes, who, allM, List.foldl_append, List.foldl_cons, List.foldl_nil, say]
theorem ql9 (u : Voter) (s : Int) (x : Claim) : q0x (allM { u with Seq := s }) x = q0x (allM u) x := by
 simp only [q0x, who, allM, List.foldl_append, List.foldl_cons, List.foldl_nil, say]
theorem qvh (u : Voter) (s : Int) : known { u with Seq := s } = known u := by
 simp only [known, q5q, allM, List.flatMap_append, List.flatMap_cons, List.flatMap_nil, say]
theorem qwb (u : Voter) (s : Int) (x : Claim) : canB { u with Seq := s } x = canB u x := by
 simp only [canB, qul, ql9]; rfl
structure CLe (c c' : Config) : Prop where
 decls : ∀ k, (decl c).testBit k = true → (decl c').testBit k = true
 trs : ∀ k, (decl c).testBit k = true → tr c k = tr c' k
theorem qjw {c c' : Config} (h : CLe c c') {s s' : Nat} (hs : s < 1024) (hs' : s' < 1024) (hss : Sub s s') : Sub (q2y c s) (q2y c' s') := by
 by_cases h0 : q2y c s = 0
 ·rw [h0]; intro i hi; simp at hi
 ·obtain ⟨q1, q2, q3⟩ := qgv c hs h0;exact qlx c' hs' ⟨q1, fun i hi => h.decls i (q2 i hi), fun k hk => by rw [← h.trs k (q2 k hk)]; exact q3 k hk⟩ (((q8r c hs).trans (Sub.and_left _ _)).trans hss)
theorem quj {c c' : Config} (h : CLe c c') {v s s' : Nat} (hss : Sub s s') (hb : blk c v s = true) : blk c' v s' = true := by
 refine qx5 hss ?_;unfold blk at hb ⊢;rw [aT] at hb ⊢;exact ⟨h.decls v hb.1, by rw [← h.trs v hb.1]; exact hb.2⟩
theorem qtc {c c' : Config} (h : CLe c c') {v vs vs' a a' : Nat} (h1 : vs < 1024) (h2 : vs' < 1024) (h3 : a < 1024) (h4 : a' < 1024) (hv : Sub vs vs') (ha : Sub a a') (hb : accB c v vs a = true) : accB c' v vs' a' = true := by
 unfold accB at hb ⊢;rw [Bool.or_eq_true] at hb ⊢;rcases hb with hb | hb
 ·exact .inl (quj h ha hb)
 ·refine .inr (qjw h (or_lt h1 h3) (or_lt h2 h4) (fun i hi => ?_) _ hb);rw [Nat.testBit_or, Bool.or_eq_true] at hi ⊢;exact hi.imp (hv i) (ha i)
theorem q82 {p : Message → Bool} : ∀ (l : List Message) (s i : Nat), (whoF p s l).testBit i = true ↔ s.testBit i = true ∨ ∃ m ∈ l, p m = true ∧ m.Node.toNat = i
 | [], s, i => by simp [whoF]
 | m :: l, s, i => by
  rw [qb7, q82 l];cases hp : p m with
  | true =>
   simp only [if_true];rw [Nat.testBit_or, Bool.or_eq_true, bit, qf7, dT'];constructor
   ·rintro ((h | h) | ⟨x, h1, h2⟩)
    ·exact .inl h
    ·exact .inr ⟨m, by simp, hp, h⟩
    ·exact .inr ⟨x, by simp [h1], h2⟩
   ·rintro (h | ⟨x, h1, h2, h3⟩)
    ·exact .inl (.inl h)
    ·rcases List.mem_cons.1 h1 with e | h1
     ·subst e; exact .inl (.inr h3)
     ·exact .inr ⟨x, h1, h2, h3⟩
  | false =>
   simp only [fT, if_false];constructor
   ·rintro (h | ⟨x, h1, h2⟩)
    ·exact .inl h
    ·exact .inr ⟨x, by simp [h1], h2⟩
   ·rintro (h | ⟨x, h1, h2, h3⟩)
    ·exact .inl h
    ·rcases List.mem_cons.1 h1 with e | h1
     ·subst e; rw [hp] at h2; cases h2
     ·exact .inr ⟨x, h1, h2, h3⟩
theorem qb9 {l : List Message} {x : Claim} {i : Nat} : (votes l x).testBit i = true ↔ ∃ m ∈ l, x ∈ m.Votes ∧ m.Node.toNat = i := by
 have h : votes l x = whoF (fun m => decide (x ∈ m.Votes)) 0 l := rfl;rw [h, q82];simp
theorem qdy {l : List Message} {x : Claim} {i : Nat} : (q0x l x).testBit i = true ↔ ∃ m ∈ l, x ∈ m.Accepts ∧ m.Node.toNat = i := by
 have h : q0x l x = whoF (fun m => decide (x ∈ m.Accepts)) 0 l := rfl;rw [h, q82];simp
abbrev qps (l : List Message) : Prop := l.Pairwise fun a b => a.Node.toNat ≠ b.Node.toNat
theorem qov : ∀ (l : List Message) (ms : List Member) (k : Nat), qps l → k < ms.length → (l.foldl seeM ms)[k]? = (match l.find? (fun m => decide (m.Node.toNat = k)) with | some m => some ⟨true, m.Trust⟩ | none => ms[k]?)
 | [], ms, k, _, _ => rfl
 | m :: l, ms, k, hd, hk => by
  have hd := List.pairwise_cons.1 hd;rw [List.foldl_cons, qov l _ k hd.2 (by simpa [seeM] using hk), List.find?_cons];by_cases e : m.Node.toNat = k
  ·have : l.find? (fun m => decide (m.Node.toNat = k)) = none := List.find?_eq_none.2 fun x hx => by
    have := hd.1 x hx;simp; omega
   simp [this, e, seeM, hk]
  ·simp only [e, decide_false];cases hf : l.find? (fun m => decide (m.Node.toNat = k)) with
   | some y => rfl
   | none => exact List.getElem?_set_ne e
theorem qzy {v : Int} {t : Trust} {l l' : List Message} (h : qps l) (h' : qps l') (hs : ∀ m ∈ l, m ∈ l') : CLe (viewC v t l) (viewC v t l') := by
 have key : ∀ k, (decl (viewC v t l)).testBit k = true → ∃ m, (viewC v t l).Members[k]? = some m ∧ (viewC v t l').Members[k]? = some m ∧ m.Declared = true ∧ k < 10 := by
  intro k hk;obtain ⟨hk10, m, hm, hd⟩ := q87.1 hk;refine ⟨m, hm, ?_, hd, hk10⟩;by_cases e : v.toNat = k
  ·rw [viewC, List.getElem?_set, if_pos e] at hm ⊢;simp only [q6x, List.length_replicate] at hm ⊢;exact hm
  ·simp only [viewC, List.getElem?_set_ne e] at hm ⊢;rw [qov l _ k h (by simpa using hk10)] at hm;rw [qov l' _ k h' (by simpa using hk10)];cases hf : l.find? (fun m => decide (m.Node.toNat = k)) with
   | none =>
    rw [hf] at hm;have hm2 : (List.replicate 10 (⟨false, ⟨0, [], []⟩⟩ : Member))[k]? = some m := hm;rw [List.eq_of_mem_replicate (List.mem_of_getElem? hm2)] at hd;cases hd
   | some x =>
    rw [hf] at hm;have hx := List.mem_of_find?_eq_some hf;have hxk := List.find?_some hf;simp only [dT'] at hxk;cases hf' : l'.find? (fun m => decide (m.Node.toNat = k)) with
    | none =>
     have := List.find?_eq_none.1 hf' x (hs x hx);simp [hxk] at this
    | some y =>
     have hy := List.mem_of_find?_eq_some hf';have hyk := List.find?_some hf';simp only [dT'] at hyk;have : x = y := by
      obtain ⟨i, hi, rfl⟩ := List.mem_iff_getElem.1 (hs x hx);obtain ⟨j, hj, rfl⟩ := List.mem_iff_getElem.1 hy;rcases Nat.lt_trichotomy i j with g | g | g
      ·exact absurd (by omega) (List.pairwise_iff_getElem.1 h' i j hi hj g)
      ·subst g; rfl
      ·exact absurd (by omega) (List.pairwise_iff_getElem.1 h' j i hj hi g)
     rw [← this]; exact hm
 refine ⟨fun k hk => ?_, fun k hk => ?_⟩
 ·obtain ⟨m, _, h2, h3, h4⟩ := key k hk;exact q87.2 ⟨h4, m, h2, h3⟩
 ·obtain ⟨m, h1, h2, _⟩ := key k hk;rw [tr, tr, h1, h2]
theorem qyf {n : Int} {l : List Message} (h : q24 n none l = true) : qps l := by
 obtain ⟨h1, _, h3⟩ := q0g.1 h;refine (List.pairwise_iff_getElem.2 fun i j hi hj hij => ?_);have g1 := qac (q20.1 (h1 _ (List.getElem_mem hi)).1).1;have g2 := qac (q20.1 (h1 _ (List.getElem_mem hj)).1).1;have := List.pairwise_iff_getElem.1 h3 i j hi hj hij;omega
theorem qm5 {n : Int} : ∀ {l k : List Message} {q q' : Option Int}, q24 n q l = true → q24 n q' k = true → (∀ x, x ∈ l ↔ x ∈ k) → l = k
 | [], [], _, _, _, _, _ => rfl
 | [], y :: k, _, _, _, _, h => by have := (h y).2 (by simp); cases this
 | x :: l, [], _, _, _, _, h => by have := (h x).1 (by simp); cases this
 | x :: l, y :: k, q, q', h1, h2, h => by
  have p1 := (q0g.1 h1).2.2;have p2 := (q0g.1 h2).2.2;have g1 := q0g.1 h1;have g2 := q0g.1 h2;rw [List.pairwise_cons] at p1 p2;have hxy : x = y := by
   by_cases e : x = y
   ·exact e
   ·have hx : x ∈ k := by rcases List.mem_cons.1 ((h x).1 (by simp)) with h | h; exact absurd h e; exact h
    have hy : y ∈ l := by rcases List.mem_cons.1 ((h y).2 (by simp)) with h | h; exact absurd h.symm e; exact h
    have := p1.1 y hy;have := p2.1 x hx;omega
  subst hxy;have r1 : q24 n none l = true := q0g.2 ⟨fun m hm => g1.1 m (by simp [hm]), (fun k hk => by cases hk), p1.2⟩;have r2 : q24 n none k = true := q0g.2 ⟨fun m hm => g2.1 m (by simp [hm]), (fun k hk => by cases hk), p2.2⟩;rw [qm5 r1 r2 fun z => ?_];constructor
  ·intro hz;rcases List.mem_cons.1 ((h z).1 (by simp [hz])) with e | h'
   ·subst e; have := p1.1 z hz; omega
   ·exact h'
  ·intro hz;rcases List.mem_cons.1 ((h z).2 (by simp [hz])) with e | h'
   ·subst e; have := p2.1 z hz; omega
   ·exact h'
theorem qay {m x : Message} : ∀ {l : List Message}, (∀ y ∈ l, y.Node ≠ m.Node) → (x ∈ hearL m l ↔ x ∈ l ∨ x = m)
 | [], _ => by simp [hearL]
 | y :: r, h => by
  have hy := h y (by simp);have ih := qay (m := m) (x := x) (l := r) fun z hz => h z (by simp [hz])
  rw [hearL];split
  ·rw [List.mem_cons, ih, List.mem_cons];constructor
   ·rintro (h | h | h); exact .inl (.inl h); exact .inl (.inr h); exact .inr h
   ·rintro ((h | h) | h); exact .inl h; exact .inr (.inl h); exact .inr (.inr h)
  ·rw [List.mem_cons];exact ⟨fun h => h.elim .inr .inl, fun h => h.elim .inr .inl⟩
def own : Claim := ⟨0, 1⟩
structure Game (M : List Message) : Prop where
 len : M.length = 3
 heard : q24 0 none M = true
 one : ∀ m ∈ M, ∀ x ∈ m.Votes ++ m.Accepts, x.Value = 1
def qmr (t : Trust) (M : List Message) (B : List Claim) : Prop := ∀ x, (x = own ∨ ∃ m ∈ M, x ∈ m.Votes ++ m.Accepts) →
 accB (viewC 0 t M) 0 (votes (M ++ [⟨0, 1, t, [own], B⟩]) x) (q0x (M ++ [⟨0, 1, t, [own], B⟩]) x) = true → x ∈ B
structure Inv19 (t : Trust) (M : List Message) (u : Voter) (S : Message → Prop) (k : Nat) : Prop where
 gone : Gone u k
 node : u.Node = 0
 tr : u.Trust = t
 votes : u.Votes = [own]
 heard : ∀ x, x ∈ u.Heard ↔ S x
 inM : ∀ x, S x → x ∈ M
 sound : ∀ x ∈ u.Accepts, (x = own ∨ ∃ m ∈ M, x ∈ m.Votes ++ m.Accepts) ∧ ∀ B, qmr t M B → x ∈ B
 done : ∀ x ∈ known u, canB u x = false
theorem qd6 {t : Trust} {M : List Message} (hM : Game M) (ht : valid t = true) : ∀ (n : Nat) (u : Voter), Ready u → u.Node = 0 → u.Trust = t → u.Votes = [own] → (∀ x ∈ u.Heard, x ∈ M) →
  (∀ x ∈ u.Accepts, (x = own ∨ ∃ m ∈ M, x ∈ m.Votes ++ m.Accepts) ∧ ∀ B, qmr t M B → x ∈ B) → ∀ x ∈ (q1z n u).Accepts, (x = own ∨ ∃ m ∈ M, x ∈ m.Votes ++ m.Accepts) ∧ ∀ B, qmr t M B → x ∈ B
 | 0, u, _, _, _, _, _, hA, x, hx => hA x hx
 | n + 1, u, h, hn, htr, hv, hH, hA, x, hx => by
  rw [q1z] at hx;cases hy : nextV u with
  | none => rw [hy] at hx; exact hA x hx
  | some y =>
   rw [hy] at hx;obtain ⟨h1, h2, h3, h4⟩ := qax hy;have hyv := q8l h1;refine qd6 hM ht n (withA u y) (h.withA hyv h3) hn htr hv hH (fun z hz => ?_) x hx;rcases (qcr h.avc hyv).1 hz with hz | hz
   ·exact hA z hz
   ·subst hz;have hk : z = own ∨ ∃ m ∈ M, z ∈ m.Votes ++ m.Accepts := by
     have hz := (q1h.1 h1).2;simp only [q5q, allM, List.mem_flatMap, List.mem_append] at hz;obtain ⟨m, hm, hz⟩ := hz;rcases hm with hm | hm
     ·exact .inr ⟨m, hH m hm, by simp [hz]⟩
     ·simp at hm; subst hm;rcases hz with hz | hz
      ·have hz' : z ∈ u.Votes := hz;rw [hv] at hz'; simp at hz'; exact .inl hz'
      ·exact absurd hz h2
    refine ⟨hk, fun B hB => hB z hk ?_⟩;have hall : ∀ m ∈ M ++ [(⟨0, 1, t, [own], q0v B⟩ : Message)], inR m.Node = true := fun m hm => by
     rcases List.mem_append.1 hm with hm | hm
     ·exact (q20.1 ((q0g.1 hM.heard).1 m hm).1).1
     ·simp at hm; subst hm; rfl
    have lt : ∀ p : Message → Bool, who p (M ++ [(⟨0, 1, t, [own], B⟩ : Message)]) < 1024 := fun p => qka p _ 0 (by decide) fun m hm => by
     rcases List.mem_append.1 hm with hm | hm
     ·exact (q20.1 ((q0g.1 hM.heard).1 m hm).1).1
     ·simp at hm; subst hm; rfl
    have e0 : u.Node.toNat = 0 := by rw [hn]; rfl
    rw [e0] at h4;refine qtc (by rw [viewV, hn, htr]; exact qzy (qyf (by have := h.heard; rw [hn] at this; exact this)) (qyf hM.heard) hH) (qqi h.all z) (lt _) (qa6 h.all z) (lt _) (fun i hi => ?_) (fun i hi => ?_) h4
    ·obtain ⟨m, hm, g1, g2⟩ := qb9.1 hi;refine qb9.2 ?_;rcases List.mem_append.1 hm with hm | hm
     ·exact ⟨m, by simp [hH m hm], g1, g2⟩
     ·simp at hm; subst hm;have g1' : z ∈ u.Votes := g1;have g2' : u.Node.toNat = i := g2;rw [hv] at g1';exact ⟨⟨0, 1, t, [own], B⟩, by simp, g1', by rw [e0] at g2'; exact g2'⟩
    ·obtain ⟨m, hm, g1, g2⟩ := qdy.1 hi;refine qdy.2 ?_;rcases List.mem_append.1 hm with hm | hm
     ·exact ⟨m, by simp [hH m hm], g1, g2⟩
     ·simp at hm; subst hm;have g1' : z ∈ u.Accepts := g1;exact absurd g1' h2
theorem Inv19.turned {t : Trust} {M : List Message} (hM : Game M) (ht : valid t = true) {b u : Voter} (hu : Ready u) (hn : u.Node = 0) (htr : u.Trust = t) (hv : u.Votes = [own]) {S : Message → Prop} (hH : ∀ x, x ∈ u.Heard ↔ S x) (hS : ∀ x, S x → x ∈ M)
  (hA : ∀ x ∈ u.Accepts, (x = own ∨ ∃ m ∈ M, x ∈ m.Votes ++ m.Accepts) ∧ ∀ B, qmr t M B → x ∈ B) {k : Nat} (hg : Gone (turnV b u) k) : Inv19 t M (turnV b u) S k := by
 obtain ⟨s, _, h2, _⟩ := q50 b u;obtain ⟨g1, g2, g3, g4, g5⟩ := q2w u;refine ⟨hg, ?_, ?_, ?_, fun x => ?_, hS, fun x hx => ?_, fun x hx => ?_⟩ <;> rw [h2] at *
 ·exact g1.trans hn
 ·exact g3.trans htr
 ·exact g4.trans hv
 ·show x ∈ (q0b u).Heard ↔ _;rw [g5]; exact hH x
 ·exact qd6 hM ht 200 u hu hn htr hv (fun y hy => hS y ((hH y).1 hy)) hA x hx
 ·rw [qvh] at hx;rw [qwb]; exact qnb hu x hx
theorem Inv19.hear {t : Trust} {M : List Message} (hM : Game M) (ht : valid t = true) {u : Voter} {S : Message → Prop} {k : Nat} (hk : k < 900) (h : Inv19 t M u S k) {m : Message} (hm : m ∈ M) (hn : ¬ S m) : ∃ w, hearV u m = (w, 0) ∧ Inv19 t M w (fun x => S x ∨ x = m) (k + 1) := by
 have hr := (q0y.1 h.gone.valid).1;have hmm := (q0g.1 hM.heard).1 m hm;have hmn : m.Node ≠ u.Node := by rw [h.node]; exact hmm.2
 have hd : ∀ y ∈ u.Heard, y.Node ≠ m.Node := fun y hy e => by
  have hyS := (h.heard y).1 hy;have hyM := h.inM y hyS;have hp := (q0g.1 hM.heard).2.2;obtain ⟨i, hi, rfl⟩ := List.mem_iff_getElem.1 hyM;obtain ⟨j, hj, rfl⟩ := List.mem_iff_getElem.1 hm;rcases Nat.lt_trichotomy i j with g | g | g
  ·have := List.pairwise_iff_getElem.1 hp i j hi hj g; omega
  ·subst g; exact hn hyS
  ·have := List.pairwise_iff_getElem.1 hp j i hj hi g; omega
 have ho : oldB u.Heard m = false := by
  rw [oldB, List.any_eq_false];intro x hx;simp [hd x hx]
 have hok := qtg h.gone.valid hmm.1 hmn ho;refine ⟨_, hok, ?_⟩;have hst := (qs9 (m := m) h.gone.valid (by rw [hok])).1;rw [hok] at hst;refine Inv19.turned hM ht (hr.withH hmm.1 hmn) h.node h.tr h.votes (fun x => ?_) (fun x hx => ?_) h.sound (h.gone.step (by omega) hst)
 ·show x ∈ hearL m u.Heard ↔ _;rw [qay hd, h.heard]
 ·rcases hx with hx | hx
  ·exact h.inM x hx
  ·rw [hx]; exact hm
theorem qje {t : Trust} {M : List Message} (hM : Game M) {u : Voter} {S : Message → Prop} {k : Nat} (h : Inv19 t M u S k) (hS : ∀ x, x ∈ M → S x) : u.Heard = M ∧ qmr t M u.Accepts := by
 have hr := (q0y.1 h.gone.valid).1;have hh : u.Heard = M := qm5 (n := 0) (q := none) (q' := none) (by have := hr.heard; rw [h.node] at this; exact this) hM.heard fun x => ⟨fun hx => h.inM x ((h.heard x).1 hx), fun hx => (h.heard x).2 (hS x hx)⟩
 refine ⟨hh, fun x hx hacc => ?_⟩;have hone : ∀ y, (y = own ∨ ∃ m ∈ M, y ∈ m.Votes ++ m.Accepts) → y.Value = 1 := fun y hy => by
  rcases hy with hy | ⟨m, hm, hy⟩
  ·rw [hy]; rfl
  ·exact hM.one m hm y hy
 by_cases hxa : x ∈ u.Accepts
 ·exact hxa
 ·have hk : x ∈ known u := by
   refine q1h.2 ?_;rcases hx with hx | ⟨m, hm, hx⟩
   ·have : x ∈ u.Votes := by rw [h.votes, hx]; simp
    exact ⟨(q0o.1 hr.votes).1 x this, by simp only [q5q, allM, List.flatMap_append, List.mem_append, List.flatMap_cons, List.flatMap_nil]; exact .inr (.inl (.inl this))⟩
   ·rw [← hh] at hm;exact ⟨qia (hr.msg m hm).1 x hx, by simp only [q5q, allM, List.flatMap_append, List.mem_append]; exact .inl (List.mem_flatMap.2 ⟨m, hm, hx⟩)⟩
  have hc := h.done x hk;have e1 : votes (allM u) x = votes (M ++ [⟨0, 1, t, [own], u.Accepts⟩]) x := by
   simp only [votes, who, allM, List.foldl_append, List.foldl_cons, List.foldl_nil, say, hh, h.votes, h.node]
  have e2 : q0x (allM u) x = q0x (M ++ [⟨0, 1, t, [own], u.Accepts⟩]) x := by
   simp only [q0x, who, allM, List.foldl_append, List.foldl_cons, List.foldl_nil, say, hh, h.node]
  have e3 : accB (viewV u) u.Node.toNat (votes (allM u) x) (q0x (allM u) x) = true := by
   rw [e1, e2, viewV, h.node, h.tr, hh]; exact hacc
  have e4 : ∀ y ∈ u.Accepts, ¬ Contra x y := fun y hy hcc => hcc.2 ((hone x hx).trans (hone y (h.sound y hy).1).symm)
  rw [canB, e3, decide_eq_true e4, decide_eq_false hxa] at hc;cases hc
theorem qxh {t : Trust} {M : List Message} (hM : Game M) {a b : Voter} {S S' : Message → Prop} {k k' : Nat} (h : Inv19 t M a S k) (h' : Inv19 t M b S' k') (hS : ∀ x, x ∈ M → S x) (hS' : ∀ x, x ∈ M → S' x) : a.Accepts = b.Accepts := by
 obtain ⟨_, h1⟩ := qje hM h hS;obtain ⟨_, h2⟩ := qje hM h' hS';exact qif (q0y.1 h.gone.valid).1.accs (q0y.1 h'.gone.valid).1.accs fun x => ⟨fun hx => (h.sound x hx).2 _ h2, fun hx => (h'.sound x hx).2 _ h1⟩
theorem qmi {l : List Int} : ∀ (k : Nat) (a : List Int) (c : Int) (i : Int), c.toNat = k → c < ((a.length : Nat) : Int) → a.length ≤ 1000 → q1e l i → ∃ p j, z1z a c l i = some (p, l, j) ∧ p.Perm a ∧ q1e l j
 | 0, a, c, i, hk, hc, ha, h => by
  refine ⟨a, i, ?_, List.Perm.refl _, h⟩;apply qpy;simp only [q01 (show c ≤ 0 by omega), cF]
 | k + 1, a, c, i, hk, hc, ha, h => by
  obtain ⟨v, j, h1, h2, h3, h4⟩ := N_ok (n := c + 1) (by omega) (by omega) h;have hv : v.toNat < a.length := by omega
  have hcl : c.toNat < a.length := by omega
  have g1 : a[v.toNat]? = some a[v.toNat] := List.getElem?_eq_getElem hv;have g2 : a[c.toNat]? = some a[c.toNat] := List.getElem?_eq_getElem hcl;have hp : ((a.set c.toNat a[v.toNat]).set v.toNat a[c.toNat]).Perm a := List.set_set_perm hcl hv;obtain ⟨p, j', h5, h6, h8⟩ := qmi k ((a.set c.toNat a[v.toNat]).set v.toNat a[c.toNat]) (c - 1) j (by omega) (by simp; omega) (by simpa using ha) h4;refine ⟨p, j', ?_, h6.trans hp, h8⟩;have hl1 : v.toNat < (List.set a c.toNat a[v.toNat]).length := by simpa using hv
  have g3 : (List.set a c.toNat a[v.toNat])[v.toNat]? = some (List.set a c.toNat a[v.toNat])[v.toNat] := List.getElem?_eq_getElem hl1;apply qpy;rw [q04 (by omega), q3b (by omega) (by omega), h1, q38 (by omega) (by omega)];simp only [cT, bS, q0z h2 g1, q0z (show 0 ≤ c by omega) g2, q3g g1, q3g g2, q0z h2 g3, q3g g3];exact h5
theorem qsa {l : List Int} {i : Int} (h : q1e l i) : ∃ p j, z39 3 l i = some (p, l, j) ∧ p.Perm [0, 1, 2] ∧ q1e l j := by
 obtain ⟨p, j, h1, h2, h3⟩ := qmi (l := l) 2 [0, 1, 2] 2 i rfl (by decide) (by simp) h;refine ⟨p, j, qz5 _ _ _ _ ?_, h2, h3⟩;apply qin;rw [q04 (by decide), cT, q0l (by simp [q08])];apply qin;rw [show addI .i64 0 1 = 1 from rfl, q04 (by decide), cT, q0l (by simp [q08])];apply qin;rw [show addI .i64 1 1 = 2 from rfl, q04 (by decide), cT, q0l (by simp [q08])];apply qin;rw [show addI .i64 2 1 = 3 from rfl, q01 (by decide), cF];exact h1
section
variable {t : Trust} (ht : valid t = true) {M : List Message} (hM : Game M) {ord : List Int} (ho : ord.Perm [0, 1, 2])
def q9r (M : List Message) (i : Nat) (x : Message) : Prop := ∃ j, j < i ∧ M[j]? = some x
def q9v (M : List Message) (ord : List Int) (i : Nat) (x : Message) : Prop := ∃ j o, j < i ∧ ord[j]? = some o ∧ M[o.toNat]? = some x
include hM in
theorem qhs {i j : Nat} {x : Message} (hi : M[i]? = some x) (hj : M[j]? = some x) : i = j := by
 have hp := (q0g.1 hM.heard).2.2;obtain ⟨h1, e1⟩ := List.getElem?_eq_some_iff.1 hi;obtain ⟨h2, e2⟩ := List.getElem?_eq_some_iff.1 hj;rcases Nat.lt_trichotomy i j with g | g | g
 ·have := List.pairwise_iff_getElem.1 hp i j h1 h2 g; rw [e1, e2] at this; omega
 ·exact g
 ·have := List.pairwise_iff_getElem.1 hp j i h2 h1 g; rw [e1, e2] at this; omega
include ho in
theorem qob {o : Int} (h : o ∈ ord) : 0 ≤ o ∧ o < 3 := by
 have := ho.mem_iff.1 h;simp at this; omega
include ho hM in
theorem qb3 (x : Message) (hx : x ∈ M) : q9r M 3 x ∧ q9v M ord 3 x := by
 have hlen : ord.length = 3 := by rw [ho.length_eq]; rfl
 have hl := hM.len;obtain ⟨i, hi, rfl⟩ := List.mem_iff_getElem.1 hx;refine ⟨⟨i, by omega, by simp⟩, ?_⟩;have hmem : (i : Int) ∈ ord := by
  rw [ho.mem_iff];have : i = 0 ∨ i = 1 ∨ i = 2 := by omega
  rcases this with rfl | rfl | rfl <;> simp
 obtain ⟨j, hj, e⟩ := List.mem_iff_getElem.1 hmem;exact ⟨j, i, by omega, by rw [← e]; simp, by simp⟩
include ht ho hM in
theorem qnu {a0 : List Int} {a2 : Int} {v : Voter} : ∀ (n i : Nat) (a b : Voter), n + i = 3 → Inv19 t M a (q9r M i) (1 + i) → Inv19 t M b (q9v M ord i) (1 + i) →
  z26 M ord 3 (i : Int) a0 a2 v.Node v.Seq v.Trust.Threshold v.Trust.Nodes v.Trust.Inner v.Votes v.Accepts v.Confirms v.Heard a.Node a.Seq a.Trust.Threshold a.Trust.Nodes a.Trust.Inner a.Votes a.Accepts a.Confirms a.Heard b.Node b.Seq b.Trust.Threshold b.Trust.Nodes b.Trust.Inner b.Votes b.Accepts b.Confirms b.Heard = some true
 | 0, i, a, b, hi, ha, hb => by
  obtain rfl : i = 3 := by omega
  have hra := (q0y.1 ha.gone.valid).1;have hal := hra.alen;have hvl := hra.vlen;have h1 := qxh hM ha hb (fun x hx => (qb3 hM ho x hx).1) (fun x hx => (qb3 hM ho x hx).2);have h2 := (qje hM ha fun x hx => (qb3 hM ho x hx).1).1;have h3 := (qje hM hb fun x hx => (qb3 hM ho x hx).2).1;apply qyp;rw [q01 (by omega), cF, qkr _ _ (by omega), bS, qkr _ _ (by omega), bS, h1, ha.votes, hb.votes, h2, h3, hM.len, qzi];simp [eqB]
 | n + 1, i, a, b, hi, ha, hb => by
  have hlen : ord.length = 3 := by rw [ho.length_eq]; rfl
  have hl := hM.len;have hio : i < ord.length := by omega
  have hiM : i < M.length := by omega
  have g1 : ord[i]? = some ord[i] := by simp [hio]
  obtain ⟨o1, o2⟩ := qob ho (List.getElem_mem hio);have g2 : M[i]? = some M[i] := by simp [hiM]
  have hoM : ord[i].toNat < M.length := by omega
  have g3 : M[ord[i].toNat]? = some M[ord[i].toNat] := by simp [hoM]
  have hnd : ord.Nodup := ho.nodup_iff.2 (by decide);obtain ⟨w1, e1, iw1⟩ := ha.hear hM ht (by omega) (List.getElem_mem hiM) (by
   rintro ⟨j, hj, hx⟩;have := qhs hM g2 hx;omega)
  obtain ⟨w2, e2, iw2⟩ := hb.hear hM ht (by omega) (List.getElem_mem hoM) (by
   rintro ⟨j, o, hj, hx, hy⟩;have h1 := qhs hM g3 hy;obtain ⟨hjl, rfl⟩ := List.getElem?_eq_some_iff.1 hx;have h2 := qob ho (List.getElem_mem hjl);have h3 : ord[j] = ord[i] := by omega
   have := (List.getElem_inj hnd).1 h3;omega)
  have sa := (q0y.1 ha.gone.valid).1.small;have sb := (q0y.1 hb.gone.valid).1.small;have m1 := q1m ((q0g.1 hM.heard).1 _ (List.getElem_mem hiM)).1;have m2 := q1m ((q0g.1 hM.heard).1 _ (List.getElem_mem hoM)).1;have c1 : Inv19 t M w1 (q9r M (i + 1)) (1 + (i + 1)) := by
   have : (fun x => q9r M i x ∨ x = M[i]) = q9r M (i + 1) := by
    funext x
    refine propext ⟨?_, ?_⟩
    ·rintro (⟨j, hj, h⟩ | rfl)
     ·exact ⟨j, by omega, h⟩
     ·exact ⟨i, by omega, g2⟩
    ·rintro ⟨j, hj, h⟩;by_cases e : j = i
     ·subst e; rw [g2] at h; cases h; exact .inr rfl
     ·exact .inl ⟨j, by omega, h⟩
   rw [this] at iw1; exact iw1
  have c2 : Inv19 t M w2 (q9v M ord (i + 1)) (1 + (i + 1)) := by
   have : (fun x => q9v M ord i x ∨ x = M[ord[i].toNat]) = q9v M ord (i + 1) := by
    funext x
    refine propext ⟨?_, ?_⟩
    ·rintro (⟨j, o, hj, h, h'⟩ | rfl)
     ·exact ⟨j, o, by omega, h, h'⟩
     ·exact ⟨i, ord[i], by omega, g1, g3⟩
    ·rintro ⟨j, o, hj, h, h'⟩;by_cases e : j = i
     ·subst e; rw [g1] at h; cases h; rw [g3] at h'; cases h'; exact .inr rfl
     ·exact .inl ⟨j, o, by omega, h, h'⟩
   rw [this] at iw2; exact iw2
  apply qyp;rw [q04 (by omega), cT, q0z (by omega) (by rw [tN]; exact g1), q0z (by omega) (by rw [tN]; exact g2), q47, qav sa m1, e1, bS, q0z o1 g3, q47, qav sb m2, e2, bS, q22, cF, cF, q00 (by omega)];exact qnu n (i + 1) w1 w2 (by omega) c1 c2
include ht ho hM in
theorem y00 {a0 : List Int} {a2 : Int} {v a : Voter} (ha : Inv19 t M a (fun _ => False) 1) :
  z2m M ord ((ord.length : Nat) : Int) 0 a0 a2 v.Node v.Seq v.Trust.Threshold v.Trust.Nodes v.Trust.Inner v.Votes v.Accepts v.Confirms v.Heard a.Node a.Seq a.Trust.Threshold a.Trust.Nodes a.Trust.Inner a.Votes a.Accepts a.Confirms a.Heard a.Node a.Seq a.Trust.Threshold a.Trust.Nodes a.Trust.Inner a.Votes a.Accepts a.Confirms a.Heard = some true := by
 have hlen : ord.length = 3 := by rw [ho.length_eq]; rfl
 have hl := hM.len;have z1 : Inv19 t M a (q9r M 0) (1 + 0) := by
  have : (fun _ => False) = q9r M 0 := by
   funext x; exact propext ⟨fun h => h.elim, fun ⟨j, hj, _⟩ => by omega⟩
  rw [this] at ha; exact ha
 have z2 : Inv19 t M a (q9v M ord 0) (1 + 0) := by
  have : (fun _ => False) = q9v M ord 0 := by
   funext x; exact propext ⟨fun h => h.elim, fun ⟨j, _, hj, _⟩ => by omega⟩
  rw [this] at ha; exact ha
 have hk := qnu (a0 := a0) (a2 := a2) (v := v) ht hM ho 3 0 a a rfl z1 z2;rw [hlen];have hio : 0 < ord.length := by omega
 have hiM : 0 < M.length := by omega
 have g1 : ord[0]? = some ord[0] := by simp [hio]
 obtain ⟨o1, o2⟩ := qob ho (List.getElem_mem hio);have g2 : M[0]? = some M[0] := by simp [hiM]
 have hoM : ord[0].toNat < M.length := by omega
 have g3 : M[ord[0].toNat]? = some M[ord[0].toNat] := by simp [hoM]
 obtain ⟨w1, e1, iw1⟩ := z1.hear hM ht (by omega) (List.getElem_mem hiM) (by rintro ⟨j, hj, hx⟩; omega);obtain ⟨w2, e2, iw2⟩ := z2.hear hM ht (by omega) (List.getElem_mem hoM) (by rintro ⟨j, o, hj, hx, hy⟩; omega);have sa := (q0y.1 ha.gone.valid).1.small;have m1 := q1m ((q0g.1 hM.heard).1 _ (List.getElem_mem hiM)).1;have m2 := q1m ((q0g.1 hM.heard).1 _ (List.getElem_mem hoM)).1;have c1 : Inv19 t M w1 (q9r M 1) (1 + 1) := by
  have : (fun x => q9r M 0 x ∨ x = M[0]) = q9r M 1 := by
   funext x
   refine propext ⟨?_, ?_⟩
   ·rintro (⟨j, hj, h⟩ | rfl)
    ·omega
    ·exact ⟨0, by omega, g2⟩
   ·rintro ⟨j, hj, h⟩;obtain rfl : j = 0 := by omega
    rw [g2] at h; cases h; exact .inr rfl
  rw [this] at iw1; exact iw1
 have c2 : Inv19 t M w2 (q9v M ord 1) (1 + 1) := by
  have : (fun x => q9v M ord 0 x ∨ x = M[ord[0].toNat]) = q9v M ord 1 := by
   funext x
   refine propext ⟨?_, ?_⟩
   ·rintro (⟨j, o, hj, h, h'⟩ | rfl)
    ·omega
    ·exact ⟨0, ord[0], by omega, g1, g3⟩
   ·rintro ⟨j, o, hj, h, h'⟩;obtain rfl : j = 0 := by omega
    rw [g1] at h; cases h; rw [g3] at h'; cases h'; exact .inr rfl
  rw [this] at iw2; exact iw2
 apply y25;rw [q04 (by decide), cT, q0z (Int.le_refl 0) g1, q0z (Int.le_refl 0) g2, q47, qav sa m1, e1, bS, q0z o1 g3, qav sa m2, e2, bS, q22, cF, cF];exact qnu ht hM ho 2 1 w1 w2 rfl c1 c2
end
structure Tops (l : List Claim) (i : Nat) : Prop where
 plain : plainC l = true
 one : ∀ x ∈ l, x.Value = 1
 low : ∀ x ∈ l, x.Topic < (i : Int)
theorem Tops.nil (i : Nat) : Tops [] i := ⟨rfl, (fun x hx => by cases hx), fun x hx => by cases hx⟩
theorem Tops.up {l : List Claim} {i : Nat} (h : Tops l i) : Tops l (i + 1) := ⟨h.plain, h.one, fun x hx => by have := h.low x hx; omega⟩
theorem Tops.snoc {l : List Claim} {i : Nat} (h : Tops l i) (hi : i < 3) : Tops (l ++ [⟨(i : Int), 1⟩]) (i + 1) := by
 obtain ⟨h1, h2⟩ := q0o.1 h.plain;refine ⟨q0o.2 ⟨fun x hx => ?_, List.pairwise_append.2 ⟨h2, by simp, fun x hx y hy => ?_⟩⟩, fun x hx => ?_, fun x hx => ?_⟩
 ·rcases List.mem_append.1 hx with hx | hx
  ·exact h1 x hx
  ·simp at hx; subst hx; exact qn4.2 ⟨by simp, by dsimp only; omega, by simp, by simp⟩
 ·simp at hy; subst hy; exact .inl (h.low x hx)
 ·rcases List.mem_append.1 hx with hx | hx
  ·exact h.one x hx
  ·simp at hx; subst hx; rfl
 ·rcases List.mem_append.1 hx with hx | hx
  ·have := h.low x hx; omega
  ·simp at hx; subst hx; dsimp only; omega
structure Part (M : List Message) (k : Nat) : Prop where
 len : M.length + 1 = k
 heard : q24 0 none M = true
 low : ∀ m ∈ M, m.Node < (k : Int)
 one : ∀ m ∈ M, ∀ x ∈ m.Votes ++ m.Accepts, x.Value = 1
theorem Part.snoc {M : List Message} {k : Nat} (h : Part M k) (hk : k < 4) {t : Trust} (ht : valid t = true) {va ac : List Claim} (hv : Tops va 3) (ha : Tops ac 3) : Part (M ++ [⟨(k : Int), 1, t, va, ac⟩]) (k + 1) := by
 have hl := h.len;obtain ⟨h1, _, h3⟩ := q0g.1 h.heard;have hm : msgB ⟨(k : Int), 1, t, va, ac⟩ = true := q20.2 ⟨by simp [inR]; omega, by simp, ht, hv.plain, ha.plain⟩;refine ⟨by simp; omega, q0g.2 ⟨fun m hm' => ?_, (fun q hq => by cases hq), List.pairwise_append.2 ⟨h3, by simp, fun x hx y hy => ?_⟩⟩, fun m hm' => ?_, fun m hm' x hx => ?_⟩
 ·rcases List.mem_append.1 hm' with hm' | hm'
  ·exact h1 m hm'
  ·simp at hm'; subst hm'; exact ⟨hm, by dsimp only; omega⟩
 ·simp at hy; subst hy; exact h.low x hx
 ·rcases List.mem_append.1 hm' with hm' | hm'
  ·have := h.low m hm'; omega
  ·simp at hm'; subst hm'; dsimp only; omega
 ·rcases List.mem_append.1 hm' with hm' | hm'
  ·exact h.one m hm' x hx
  ·simp at hm'; subst hm';rcases List.mem_append.1 hx with hx | hx
   ·exact hv.one x hx
   ·exact ha.one x hx
theorem qfu {l : List Int} (M : List Message) (hM : M.length < 1000) (k : Int) {v a : Voter} (tk : Trust)
  (hnext : ∀ va ac j, Tops va 3 → Tops ac 3 → q1e l j → z1x (M ++ [⟨k, 1, tk, va, ac⟩]) (addI .i64 k 1) l j v.Node v.Seq v.Trust.Threshold v.Trust.Nodes v.Trust.Inner v.Votes v.Accepts v.Confirms v.Heard a.Node a.Seq a.Trust.Threshold a.Trust.Nodes a.Trust.Inner a.Votes a.Accepts a.Confirms a.Heard = some true) :
  ∀ (n i : Nat) (va ac : List Claim) (j : Int), n + i = 3 → Tops va i → Tops ac i → q1e l j →
  z1q M k (i : Int) l j v.Node v.Seq v.Trust.Threshold v.Trust.Nodes v.Trust.Inner v.Votes v.Accepts v.Confirms v.Heard a.Node a.Seq a.Trust.Threshold a.Trust.Nodes a.Trust.Inner a.Votes a.Accepts a.Confirms a.Heard k 1 tk.Threshold tk.Nodes tk.Inner va ac = some true
 | 0, i, va, ac, j, hi, hv, ha, h => by
  obtain rfl : i = 3 := by omega
  apply qyl;rw [q01 (by omega), cF, q0l (by simp [q08]; omega), Trust.etaM];exact hnext va ac j hv ha h
 | n + 1, i, va, ac, j, hi, hv, ha, h => by
  have hvl := q2i hv.plain;have hal := q2i ha.plain;obtain ⟨x0, i0, g0, _, _, a0⟩ := N_ok (n := 2) (by omega) (by omega) h;obtain ⟨x1, i1, g1, _, _, a1⟩ := N_ok (n := 3) (by omega) (by omega) a0;apply qyl;rw [q04 (by omega), cT, g0, bS]
  dsimp only
  rw [g1, q0l (by simp [q08]; omega)];simp only [bS];rw [q0l (by simp [q08]; omega), q00 (by omega)];by_cases e0 : x0 = 0 <;> by_cases e1 : x1 = 0
  ·rw [e0, e1, q5k, cT, cT];exact qfu M hM k tk hnext n (i + 1) _ _ i1 (by omega) (hv.snoc (by omega)) (ha.snoc (by omega)) a1
  ·rw [e0, q5k, cT, q7x e1, cF];exact qfu M hM k tk hnext n (i + 1) _ _ i1 (by omega) (hv.snoc (by omega)) ha.up a1
  ·rw [q7x e0, cF, e1, q5k, cT, q0l (by simp [q08]; omega)];exact qfu M hM k tk hnext n (i + 1) _ _ i1 (by omega) hv.up (ha.snoc (by omega)) a1
  ·rw [q7x e0, cF, q7x e1, cF];exact qfu M hM k tk hnext n (i + 1) _ _ i1 (by omega) hv.up ha.up a1
theorem qu7 {l : List Int} {v a : Voter} (hnext : ∀ M j, Game M → q1e l j → (∀ p j', p.Perm [0, 1, 2] → z2m M p ((p.length : Nat) : Int) 0 l j' v.Node v.Seq v.Trust.Threshold v.Trust.Nodes v.Trust.Inner v.Votes v.Accepts v.Confirms v.Heard a.Node a.Seq a.Trust.Threshold a.Trust.Nodes a.Trust.Inner a.Votes a.Accepts a.Confirms a.Heard a.Node a.Seq a.Trust.Threshold a.Trust.Nodes a.Trust.Inner a.Votes a.Accepts a.Confirms a.Heard = some true)) :
  ∀ (n k : Nat) (M : List Message) (j : Int), n + k = 4 → 1 ≤ k → Part M k → q1e l j →
  z1x M (k : Int) l j v.Node v.Seq v.Trust.Threshold v.Trust.Nodes v.Trust.Inner v.Votes v.Accepts v.Confirms v.Heard a.Node a.Seq a.Trust.Threshold a.Trust.Nodes a.Trust.Inner a.Votes a.Accepts a.Confirms a.Heard = some true
 | 0, k, M, j, hk, hk1, hM, h => by
  obtain ⟨p, j', g1, g2, a1⟩ := qsa h;have hl := hM.len;apply qya;rw [q01 (by omega), cF, g1, bS];exact hnext M j' ⟨by omega, hM.heard, hM.one⟩ a1 p j' g2
 | n + 1, k, M, j, hk, hk1, hM, h => by
  obtain ⟨tk, j', g1, g2, a1⟩ := qkq (n := 4) (by omega) (by omega) h;have hl := hM.len;apply qya;rw [q04 (by omega), cT, g1, bS];exact qfu M (by omega) (k : Int) tk (fun va ac j'' hva hac hj => by
   rw [q00 (by omega)];exact qu7 hnext n (k + 1) _ j'' (by omega) (by omega) (hM.snoc (by omega) g2 hva hac) hj) 3 0 [] [] j' rfl (Tops.nil 0) (Tops.nil 0) a1
theorem qzp (t : List Int) : law19_VotingOrder t = some true := by
 obtain ⟨l, g0, a0⟩ := y1l t;obtain ⟨t0, i1, g1, ht, a1⟩ := qkq (l := l) (n := 4) (by omega) (by omega) a0;obtain ⟨s1, s2⟩ := qfx (n := 0) (t := t0) rfl ht;have hr := (q0y.1 s2).1;have hv : voteV ⟨0, 1, t0, [], [], [], []⟩ own = (turnV ⟨0, 1, t0, [], [], [], []⟩ ⟨0, 1, t0, [own], [], [], []⟩, 0) := by
  have hp : q0v ([] ++ [own]) = [own] := by decide +kernel
  unfold voteV;rw [if_neg (by rw [s2]; decide), if_neg (by simp), if_neg (by simp)]
  dsimp only
  rw [hp]
 have hu : Ready (⟨0, 1, t0, [own], [], [], []⟩ : Voter) := by
  have := hr.withV own;have hp : q0v ([] ++ [own]) = [own] := by decide +kernel
  dsimp only at this
  rw [hp] at this; exact this
 have hst := (qth s2 (x := own) (by rw [hv])).1;rw [hv] at hst;have hg : Gone (turnV ⟨0, 1, t0, [], [], [], []⟩ ⟨0, 1, t0, [own], [], [], []⟩) 1 := Gone.step (k := 0) ⟨s2, by show (1 : Int) ≤ _; omega⟩ (by omega) hst;apply law19_VotingOrder_le;rw [g0, bS]
 dsimp only
 rw [g1, bS]
 dsimp only
 rw [qi7 0 (q3i ht), s1, bS]
 dsimp only
 rw [q22, cF];have hp := qg2 hr.small own;rw [hv] at hp;have hp' : z3v ⟨0, 1, t0, [], [], [], []⟩ ⟨0, 1⟩ = _ := hp;rw [hp', bS]
 dsimp only
 rw [q22, cF];exact qu7 (v := ⟨0, 1, t0, [], [], [], []⟩) (fun M j hM _ p j' hp => y00 ht hM hp (Inv19.turned hM ht hu rfl rfl rfl (fun x => by simp) (fun x hx => hx.elim) (fun x hx => by cases hx) hg)) 3 1 [] i1 rfl (Nat.le_refl _) ⟨rfl, rfl, (fun m hm => by cases hm), fun m hm => by cases hm⟩ a1
end Go.Proofs.YthbpagedblodfaaGreat
namespace Go.Proofs.YthbpagedblodfaaGreat
open Go Go.Ab Go.ChangeShapes Go.WideShapes Go.ChangeAt Go.WideMaps Go.WideElems Go.RowKit
theorem Tryz.own : ownKnob Tryz.prog.godebug = none := by kernel_rfl
theorem Tryz.laidOut : laidOutB Tryz.prog = true := by kernel_rfl
theorem qvn {f : Nat} (hlaw : ∀ zs : List Int, (∀ z ∈ zs, (Lit.int .i64 z).wf = true) → ∃ n h', call env n f [.d (ints .i64 zs)] [] = some (.d (.v (.bool true)), h'))
  {W : World} {v : Value} {zs : List Int} (hz : ∀ z ∈ zs, (Lit.int .i64 z).wf = true) (hv : Rep W qbm (ints .i64 zs) v) :
  Calls Tryz.prog f #[v] W fun e w' => e = .returned (.bool true) ∧ Below W.heap.size W w' := by
 obtain ⟨n, h', hc⟩ := hlaw zs hz;exact top (E := env) (y4m n) (fun g cs hg => by cases hg) (ds := [ints .i64 zs]) hc rfl (fun i d hd => by
  cases i with
  | zero => simp at hd; subst hd; exact hv
  | succ i => simp at hd)
end Go.Proofs.YthbpagedblodfaaGreat
