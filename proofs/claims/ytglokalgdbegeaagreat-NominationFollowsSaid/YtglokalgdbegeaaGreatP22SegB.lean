/- Laws of the printed functions. -/
import Derived.Test.YtglokalgdbegeaaGreatP22SegA
import Derived.Test.YtglokalgdbegeaaGreatRows
import Derived.ProofKit
import Derived.LaidMore
import Derived.OpenShut
import Derived.Stop.Joined
namespace Go.Proofs.YtglokalgdbegeaaGreat
open Go Go.Ab
def sayN (n : Nominator) : Nomination := ⟨n.Node, n.Seq, n.Trust, n.Votes, n.Accepts⟩
def nomB (m : Nomination) : Bool := inR m.Node && (decide (1 ≤ m.Seq) && (valid m.Trust && (q0v m.Votes && q0v m.Accepts)))
theorem q1v {m : Nomination} : nomB m = true ↔ inR m.Node = true ∧ 1 ≤ m.Seq ∧ valid m.Trust = true ∧ q0v m.Votes = true ∧ q0v m.Accepts = true := by simp [nomB]
def q3k (n : Int) : Option Int → List Nomination → Bool
 | _, [] => true
 | none, m :: r => nomB m && (!decide (m.Node = n) && q3k n (some m.Node) r)
 | some q, m :: r => nomB m && (!decide (m.Node = n) && (decide (q < m.Node) && q3k n (some m.Node) r))
theorem q2n {n : Int} : ∀ {l : List Nomination} {q : Option Int}, q3k n q l = true ↔ (∀ m ∈ l, nomB m = true ∧ m.Node ≠ n) ∧ (∀ k, q = some k → ∀ m ∈ l, k < m.Node) ∧ l.Pairwise (fun a b => a.Node < b.Node)
 | [], q => by cases q <;> simp [q3k]
 | m :: r, q => by
  have ih := q2n (n := n) (l := r) (q := some m.Node);have h1 : q3k n q (m :: r) = true ↔ nomB m = true ∧ m.Node ≠ n ∧ (∀ k, q = some k → k < m.Node) ∧ q3k n (some m.Node) r = true := by
   cases q <;> simp [q3k]
  rw [h1, ih, List.pairwise_cons];constructor
  ·rintro ⟨g1, g2, g3, g4, g5, g6⟩;refine ⟨fun x hx => ?_, fun k hk x hx => ?_, g5 _ rfl, g6⟩
   ·rcases List.mem_cons.1 hx with e | hx
    ·subst e; exact ⟨g1, g2⟩
    ·exact g4 x hx
   ·rcases List.mem_cons.1 hx with e | hx
    ·subst e; exact g3 k hk
    ·exact Int.lt_trans (g3 k hk) (g5 _ rfl x hx)
  ·rintro ⟨g1, g2, g3, g4⟩;exact ⟨(g1 m (by simp)).1, (g1 m (by simp)).2, fun k hk => g2 k hk m (by simp), fun x hx => g1 x (by simp [hx]), fun k hk x hx => by cases hk; exact g3 x hx, g4⟩
theorem qtd {n : Int} {l : List Nomination} (h : q3k n none l = true) : l.length ≤ 10 := by
 obtain ⟨h1, _, h3⟩ := q2n.1 h;have := qvj (m := 10) (l := l.map (·.Node)) (by decide) (fun k hk => by
  obtain ⟨m, hm, rfl⟩ := List.mem_map.1 hk;have := (q1v.1 (h1 m hm).1).1;simpa [inR] using this) (List.pairwise_map.2 h3)
 simp at this; omega
def numsN (n : Nominator) : Bool := inR n.Node && (decide (0 ≤ n.Slot) && (decide (n.Slot ≤ 1000000) && (decide (1 ≤ n.Round) && (decide (n.Round ≤ 1000) && (decide (1 ≤ n.Seq) && decide (n.Seq ≤ 1000000))))))
def q6p (n : Nominator) : Bool := numsN n && (valid n.Trust && (decide (n.Own.length ≤ 200) && (q0v n.Votes && (q0v n.Accepts && (q0v n.Candidates && (n.Candidates.all (fun x => decide (x ∈ n.Accepts)) && q3k n.Node none n.Heard))))))
structure ReadyN (n : Nominator) : Prop where
 node : inR n.Node = true
 slot : 0 ≤ n.Slot ∧ n.Slot ≤ 1000000
 round : 1 ≤ n.Round ∧ n.Round ≤ 1000
 seq : 1 ≤ n.Seq ∧ n.Seq ≤ 1000000
 tr : valid n.Trust = true
 own : n.Own.length ≤ 200
 votes : q0v n.Votes = true
 accs : q0v n.Accepts = true
 cands : q0v n.Candidates = true
 sub : ∀ x ∈ n.Candidates, x ∈ n.Accepts
 heard : q3k n.Node none n.Heard = true
theorem qdg {n : Nominator} : q6p n = true ↔ ReadyN n := by
 simp only [q6p, numsN, aT, dT', List.all_eq_true];constructor
 ·rintro ⟨⟨h1, h2, h3, h4, h5, h6, h7⟩, h8, h9, h10, h11, h12, h13, h14⟩;exact ⟨h1, ⟨h2, h3⟩, ⟨h4, h5⟩, ⟨h6, h7⟩, h8, h9, h10, h11, h12, h13, h14⟩
 ·rintro ⟨h1, ⟨h2, h3⟩, ⟨h4, h5⟩, ⟨h6, h7⟩, h8, h9, h10, h11, h12, h13, h14⟩;exact ⟨⟨h1, h2, h3, h4, h5, h6, h7⟩, h8, h9, h10, h11, h12, h13, h14⟩
def allN (n : Nominator) : List Nomination := n.Heard ++ [sayN n]
section
variable {n : Nominator} (h : ReadyN n)
include h
theorem ReadyN.msg : ∀ m ∈ n.Heard, nomB m = true ∧ m.Node ≠ n.Node := (q2n.1 h.heard).1
theorem ReadyN.asc : n.Heard.Pairwise (fun a b => a.Node < b.Node) := (q2n.1 h.heard).2.2
theorem ReadyN.say : nomB (sayN n) = true := q1v.2 ⟨h.node, h.seq.1, h.tr, h.votes, h.accs⟩
theorem ReadyN.all : ∀ m ∈ allN n, nomB m = true := fun m hm => by
 rcases List.mem_append.1 hm with hm | hm
 ·exact (h.msg m hm).1
 ·simp at hm; subst hm; exact h.say
theorem ReadyN.hlen : n.Heard.length ≤ 10 := qtd h.heard
theorem ReadyN.len : (allN n).length ≤ 11 := by have := h.hlen; simp [allN]; omega
theorem ReadyN.alen : n.Accepts.length ≤ 40 := (q0g.1 h.accs).2.2
theorem ReadyN.vlen : n.Votes.length ≤ 40 := (q0g.1 h.votes).2.2
theorem ReadyN.clen : n.Candidates.length ≤ 40 := (q0g.1 h.cands).2.2
theorem ReadyN.node' : n.Node.toNat < 10 ∧ ((n.Node.toNat : Nat) : Int) = n.Node := by have := qcz h.node; omega
theorem ReadyN.avv : ∀ z ∈ n.Accepts, vvl z = true := (q0g.1 h.accs).1
end
structure SmallN (m : Nomination) : Prop where
 tr : Small m.Trust
 votes : m.Votes.length < 1000000
 accs : m.Accepts.length < 1000000
structure SmallR (n : Nominator) : Prop where
 tr : Small n.Trust
 own : n.Own.length < 1000000
 votes : n.Votes.length < 1000000
 accs : n.Accepts.length < 1000000
 cands : n.Candidates.length < 1000000
 heard : n.Heard.length < 1000000
 msgs : ∀ m ∈ n.Heard, SmallN m
theorem q55 {m : Nomination} (h : nomB m = true) : SmallN m := by
 obtain ⟨_, _, h1, h2, h3⟩ := q1v.1 h;have := (q0g.1 h2).2.2;have := (q0g.1 h3).2.2;exact ⟨q1p h1, by omega, by omega⟩
theorem ReadyN.small {n : Nominator} (h : ReadyN n) : SmallR n := ⟨q1p h.tr, by have := h.own; omega, by have := h.vlen; omega, by have := h.alen; omega, by have := h.clen; omega, by have := h.hlen; omega, fun m hm => q55 (h.msg m hm).1⟩
def q3s (l : List Nomination) : List Val := l.flatMap fun m => m.Votes ++ m.Accepts
def qi8 (n : Nominator) : List Val := setV (q3s (allN n))
theorem qj2 {x : Val} {l : List Nomination} : x ∈ q3s l ↔ ∃ m ∈ l, x ∈ m.Votes ∨ x ∈ m.Accepts := by simp [q3s]
theorem qfk {m : Nomination} (h : nomB m = true) : ∀ x ∈ m.Votes ++ m.Accepts, vvl x = true := fun x hx => by
 obtain ⟨_, _, _, h1, h2⟩ := q1v.1 h;rcases List.mem_append.1 hx with hx | hx
 ·exact (q0g.1 h1).1 x hx
 ·exact (q0g.1 h2).1 x hx
theorem qnk {n : Nominator} (h : ReadyN n) {x : Val} (hx : x ∈ qi8 n) : vvl x = true := by
 obtain ⟨m, hm, hx⟩ := qj2.1 (q39.1 hx);exact qfk (h.all m hm) x (List.mem_append.2 hx)
def q6s (V l : List Val) : List Val := l.foldl putV V
def leadV (n : Nominator) (V : List Val) (u : Int) : List Val :=
 if u = n.Node then (if n.Own = [] then V else putV V n.Own)
 else n.Heard.foldl (fun V m => if m.Node = u then q6s V (setV (m.Votes ++ m.Accepts)) else V) V
def qhm (L : List Int) (n : Nominator) : List Val := L.foldl (leadV n) n.Votes
theorem q63 : ∀ {l V : List Val}, q0v V = true → (∀ x ∈ l, vvl x = true) → q0v (q6s V l) = true
 | [], V, h, _ => h
 | x :: l, V, h, hl => by
  have h1 := q3j h (hl x (by simp));exact q63 (l := l) (V := putV V x) h1 fun y hy => hl y (by simp [hy])
theorem qd3 : ∀ {l V : List Val} {x : Val}, x ∈ V → x ∈ q6s V l
 | [], _V, _x, h => h
 | _y :: l, _V, _x, h => qd3 (l := l) (q9p h)
theorem qdj : ∀ {l V : List Val} {x : Val}, x ∈ q6s V l → x ∈ V ∨ x ∈ l
 | [], V, x, h => .inl h
 | y :: l, V, x, h => by
  rcases qdj (l := l) h with h | h
  ·rcases q62 h with h | h
   ·exact .inl h
   ·exact .inr (by simp [h])
  ·exact .inr (by simp [h])
theorem qe9 {u : Int} : ∀ {l : List Nomination} {V : List Val}, q0v V = true → (∀ m ∈ l, nomB m = true) → q0v (l.foldl (fun V m => if m.Node = u then q6s V (setV (m.Votes ++ m.Accepts)) else V) V) = true
 | [], V, h, _ => h
 | m :: l, V, h, hm => by
  rw [List.foldl_cons];refine qe9 ?_ fun k hk => hm k (by simp [hk])
  split
  ·exact q63 h fun x hx => qfk (hm m (by simp)) x (q39.1 hx)
  ·exact h
theorem qde {u : Int} : ∀ {l : List Nomination} {V : List Val} {x : Val}, x ∈ V → x ∈ l.foldl (fun V m => if m.Node = u then q6s V (setV (m.Votes ++ m.Accepts)) else V) V
 | [], V, x, h => h
 | m :: l, V, x, h => by
  rw [List.foldl_cons];refine qde ?_;split
  ·exact qd3 h
  ·exact h
theorem qd1 {u : Int} : ∀ {l : List Nomination} {V : List Val} {x : Val}, x ∈ l.foldl (fun V m => if m.Node = u then q6s V (setV (m.Votes ++ m.Accepts)) else V) V → x ∈ V ∨ ∃ m ∈ l, m.Node = u ∧ (x ∈ m.Votes ∨ x ∈ m.Accepts)
 | [], V, x, h => .inl h
 | m :: l, V, x, h => by
  rw [List.foldl_cons] at h;rcases qd1 h with h | ⟨k, h1, h2⟩
  ·split at h
   ·rename_i hu;rcases qdj h with h | h
    ·exact .inl h
    ·exact .inr ⟨m, by simp, hu, List.mem_append.1 (q39.1 h)⟩
   ·exact .inl h
  ·exact .inr ⟨k, by simp [h1], h2⟩
section
variable {n : Nominator} (h : ReadyN n)
include h
theorem qak {V : List Val} {u : Int} (hV : q0v V = true) : q0v (leadV n V u) = true := by
 unfold leadV;split
 ·split
  ·exact hV
  ·rename_i ho;have := h.own;have : n.Own.length ≠ 0 := fun e => ho (List.length_eq_zero_iff.1 e)
   exact q3j hV (qq5.2 ⟨by omega, by omega⟩)
 ·exact qe9 hV fun m hm => (h.msg m hm).1
theorem qgw : ∀ {L : List Int} {V : List Val}, q0v V = true → q0v (L.foldl (leadV n) V) = true
 | [], _V, hV => hV
 | _u :: L, _V, hV => qgw (L := L) (qak h hV)
theorem qod (L : List Int) : q0v (qhm L n) = true := qgw h h.votes
theorem ReadyN.withV {V : List Val} (hV : q0v V = true) : ReadyN { n with Votes := V } := ⟨h.node, h.slot, h.round, h.seq, h.tr, h.own, hV, h.accs, h.cands, h.sub, h.heard⟩
end
theorem qwi {n : Nominator} {V : List Val} {u : Int} {x : Val} (hx : x ∈ V) : x ∈ leadV n V u := by
 unfold leadV;split
 ·split
  ·exact hx
  ·exact q9p hx
 ·exact qde hx
theorem qgv {n : Nominator} {x : Val} : ∀ {L : List Int} {V : List Val}, x ∈ V → x ∈ L.foldl (leadV n) V
 | [], _V, hV => hV
 | _u :: L, _V, hV => qgv (L := L) (qwi hV)
theorem qtm {n : Nominator} {x : Val} (L : List Int) (hx : x ∈ n.Votes) : x ∈ qhm L n := qgv hx
def msgOf (m : Nomination) : Message := ⟨m.Node, m.Seq, m.Trust, [], []⟩
def viewN (n : Nominator) : Config := viewC n.Node n.Trust (n.Heard.map msgOf)
theorem qzf {m : Nomination} (h : nomB m = true) : msgB (msgOf m) = true := by
 obtain ⟨h1, h2, h3, _⟩ := q1v.1 h;exact qlh.2 ⟨h1, h2, h3, rfl, rfl⟩
theorem ReadyN.msgs {n : Nominator} (h : ReadyN n) : ∀ m ∈ n.Heard.map msgOf, msgB m = true ∧ m.Node ≠ n.Node := fun m hm => by
 obtain ⟨k, hk, rfl⟩ := List.mem_map.1 hm;exact ⟨qzf (h.msg k hk).1, (h.msg k hk).2⟩
theorem ReadyN.view {n : Nominator} (h : ReadyN n) : q85 (viewN n) := qqy h.tr fun m hm => (h.msgs m hm).1
def whoN (p : Nomination → Bool) (s : Nat) (l : List Nomination) : Nat := l.foldl (fun s m => if p m then s ||| bit m.Node else s) s
def q98 (l : List Nomination) (x : Val) : Nat := whoN (fun m => decide (x ∈ m.Votes)) 0 l
def accsN (l : List Nomination) (x : Val) : Nat := whoN (fun m => decide (x ∈ m.Accepts)) 0 l
theorem qid (p : Nomination → Bool) (s : Nat) (m : Nomination) (l : List Nomination) : whoN p s (m :: l) = whoN p (if p m then s ||| bit m.Node else s) l := rfl
theorem qr3 (p : Nomination → Bool) : ∀ (l : List Nomination) (s : Nat), s < 1024 → (∀ m ∈ l, inR m.Node = true) → whoN p s l < 1024
 | [], s, h, _ => h
 | m :: l, s, h, hm => by
  rw [qid];refine qr3 p l _ ?_ fun m hm' => hm m (by simp [hm'])
  split
  ·exact or_lt h (qa2 (hm m (by simp)))
  ·exact h
theorem qvl {l : List Nomination} (hm : ∀ m ∈ l, nomB m = true) (x : Val) : q98 l x < 1024 := qr3 _ l 0 (by decide) fun m h => (q1v.1 (hm m h)).1
theorem qr6 {l : List Nomination} (hm : ∀ m ∈ l, nomB m = true) (x : Val) : accsN l x < 1024 := qr3 _ l 0 (by decide) fun m h => (q1v.1 (hm m h)).1
def canN (n : Nominator) (x : Val) : Bool := !decide (x ∈ n.Accepts) && (decide (n.Accepts.length < 40) && accB (viewN n) n.Node.toNat (q98 (allN n) x) (accsN (allN n) x))
def nextN (n : Nominator) : Option Val := (qi8 n).find? (canN n)
theorem qdh {n : Nominator} {x : Val} (h : nextN n = some x) : x ∈ qi8 n ∧ x ∉ n.Accepts ∧ n.Accepts.length < 40 ∧ accB (viewN n) n.Node.toNat (q98 (allN n) x) (accsN (allN n) x) = true := by
 have h1 := List.mem_of_find?_eq_some h;have h2 := List.find?_some h;simp only [canN, aT, Bool.not_eq_true', dT', decide_eq_false_iff_not] at h2;exact ⟨h1, h2⟩
def qeq (n : Nominator) (x : Val) : Nominator := { n with Accepts := putV n.Accepts x }
def q3g : Nat → Nominator → Nominator
 | 0, n => n
 | k + 1, n => match nextN n with
  | none => n
  | some x => q3g k (qeq n x)
theorem ReadyN.withA {n : Nominator} (h : ReadyN n) {x : Val} (hx : vvl x = true) : ReadyN (qeq n x) := ⟨h.node, h.slot, h.round, h.seq, h.tr, h.own, h.votes, q3j h.accs hx, h.cands, fun y hy => q9p (h.sub y hy), h.heard⟩
theorem q8k : ∀ (k : Nat) (n : Nominator), ReadyN n → 40 - n.Accepts.length < k → ReadyN (q3g k n) ∧ nextN (q3g k n) = none
 | 0, n, h, hn => by omega
 | k + 1, n, h, hn => by
  rw [q3g];cases hx : nextN n with
  | none => exact ⟨h, hx⟩
  | some x =>
   obtain ⟨h1, h2, h3, _⟩ := qdh hx;have hv := qnk h h1;have hl := qrz h3 h2;exact q8k k (qeq n x) (h.withA hv) (by show 40 - (putV n.Accepts x).length < k; omega)
theorem qe0 : ∀ (k : Nat) (n : Nominator), ∃ A, q3g k n = { n with Accepts := A } ∧ ∀ x ∈ n.Accepts, x ∈ A
 | 0, n => ⟨n.Accepts, rfl, fun _ h => h⟩
 | k + 1, n => by
  rw [q3g];cases nextN n with
  | none => exact ⟨n.Accepts, rfl, fun _ h => h⟩
  | some x =>
   obtain ⟨A, h1, h2⟩ := qe0 k (qeq n x);exact ⟨A, h1, fun y hy => h2 y (q9p hy)⟩
def candN (n : Nominator) (C : List Val) (l : List Val) : List Val := l.foldl (fun C x => if confB (viewN n) n.Node.toNat (accsN (allN n) x) then putV C x else C) C
def qgj (n : Nominator) : Nominator := { n with Candidates := candN n n.Candidates n.Accepts }
def q16 (L : List Int) (n : Nominator) : Nominator := if n.Candidates = [] then { n with Votes := qhm L n } else n
def q0x (L : List Int) (n : Nominator) : Nominator := qgj (q3g 60 (q16 L n))
theorem qht (n : Nominator) : ∀ (l C : List Val), q0v C = true → (∀ x ∈ l, vvl x = true) → q0v (candN n C l) = true
 | [], C, h, _ => h
 | x :: l, C, h, hl => by
  show q0v (candN n (if _ then _ else _) l) = true;refine qht n l _ ?_ fun y hy => hl y (by simp [hy])
  split
  ·exact q3j h (hl x (by simp))
  ·exact h
theorem q7j (n : Nominator) {y : Val} : ∀ (l C : List Val), y ∈ C → y ∈ candN n C l
 | [], C, h => h
 | x :: l, C, h => by
  show y ∈ candN n (if _ then _ else _) l;refine q7j n l _ ?_;split
  ·exact q9p h
  ·exact h
theorem qen (n : Nominator) {y : Val} : ∀ (l C : List Val), y ∈ candN n C l → y ∈ C ∨ y ∈ l ∧ confB (viewN n) n.Node.toNat (accsN (allN n) y) = true
 | [], C, h => .inl h
 | x :: l, C, h => by
  have h' : y ∈ candN n (if confB (viewN n) n.Node.toNat (accsN (allN n) x) then putV C x else C) l := h;rcases qen n l _ h' with g | g
  ·split at g
   ·rename_i hc;rcases q62 g with g | g
    ·exact .inl g
    ·exact .inr ⟨by simp [g], by rw [g]; exact hc⟩
   ·exact .inl g
  ·exact .inr ⟨by simp [g.1], g.2⟩
theorem q7y : ∀ {A B : List Val}, A.Nodup → (∀ x ∈ A, x ∈ B) → A.length ≤ B.length
 | [], B, _, _ => by simp
 | x :: A, B, hA, h => by
  obtain ⟨h1, h2⟩ := List.nodup_cons.1 hA;have hx := h x (by simp);have ih := q7y (B := B.erase x) h2 fun y hy => (List.mem_erase_of_ne (fun e => h1 (by rw [← e]; exact hy))).2 (h y (by simp [hy]))
  rw [List.length_erase_of_mem hx] at ih;have := List.length_pos_of_mem hx;simp; omega
theorem qho {A B : List Val} (hA : Asc A) (h : ∀ x ∈ A, x ∈ B) : A.length ≤ B.length := q7y (qji hA) h
theorem qna (n : Nominator) {A : List Val} (hA : A.length ≤ 40) (hsA : ∀ x ∈ A, vvl x = true) {y : Val} : ∀ (l C : List Val), q0v C = true → (∀ x ∈ C, x ∈ A) → (∀ x ∈ l, x ∈ A) → y ∈ l → confB (viewN n) n.Node.toNat (accsN (allN n) y) = true → y ∈ candN n C l
 | [], C, _, _, _, h, _ => by simp at h
 | x :: l, C, hC, hCA, hl, hy, hc => by
  show y ∈ candN n (if _ then _ else _) l;have hxA := hl x (by simp);by_cases e : y = x
  ·subst e;refine q7j n l _ ?_;rw [if_pos hc];by_cases g : y ∈ C
   ·exact q9p g
   ·refine qlr ?_;have h1 : Asc (insV C y) := qft (q0g.1 hC).2.1 g;have h2 := qho h1 (B := A) fun z hz => by
     rcases q7a.1 hz with hz | hz
     ·rw [hz]; exact hxA
     ·exact hCA z hz
    rw [qfu] at h2;omega
  ·refine qna n hA hsA l _ ?_ ?_ (fun z hz => hl z (by simp [hz])) (by simpa [e] using hy) hc
   ·split
    ·exact q3j hC (hsA x hxA)
    ·exact hC
   ·split
    ·intro z hz;rcases q62 hz with hz | hz
     ·exact hCA z hz
     ·rw [hz]; exact hxA
    ·exact hCA
theorem ReadyN.finish {n : Nominator} (h : ReadyN n) : ReadyN (qgj n) :=
 ⟨h.node, h.slot, h.round, h.seq, h.tr, h.own, h.votes, h.accs, qht n _ _ h.cands h.avv, fun x hx => by
  rcases qen n _ _ hx with hx | hx
  ·exact h.sub x hx
  ·exact hx.1, h.heard⟩
theorem ReadyN.listen {n : Nominator} (h : ReadyN n) (L : List Int) : ReadyN (q16 L n) := by
 unfold q16;split
 ·exact h.withV (qod h L)
 ·exact h
theorem ReadyN.settle {n : Nominator} (h : ReadyN n) (L : List Int) : ReadyN (q0x L n) := ((q8k 60 _ (h.listen L) (by omega)).1).finish
noncomputable def turnN (b w : Nominator) : Nominator := if b.Trust = w.Trust ∧ b.Votes = w.Votes ∧ b.Accepts = w.Accepts then w else { w with Seq := w.Seq + 1 }
def q5f (m : Nomination) : List Nomination → List Nomination
 | [] => [m]
 | x :: r => if x.Node < m.Node then x :: q5f m r else if x.Node = m.Node then m :: r else m :: x :: r
def oldN (l : List Nomination) (m : Nomination) : Bool := l.any fun x => decide (x.Node = m.Node) && decide (m.Seq ≤ x.Seq)
theorem qj6 {m x : Nomination} : ∀ {l : List Nomination}, x ∈ q5f m l → x = m ∨ x ∈ l
 | [], h => by simp [q5f] at h; exact .inl h
 | y :: r, h => by
  rw [q5f] at h;split at h
  ·rcases List.mem_cons.1 h with h | h
   ·exact .inr (by simp [h])
   ·rcases qj6 h with h | h
    ·exact .inl h
    ·exact .inr (by simp [h])
  ·split at h
   ·rcases List.mem_cons.1 h with h | h
    ·exact .inl h
    ·exact .inr (by simp [h])
   ·rcases List.mem_cons.1 h with h | h
    ·exact .inl h
    ·exact .inr h
theorem qea {n : Int} {m : Nomination} (hm : nomB m = true) (hn : m.Node ≠ n) : ∀ {l : List Nomination} {q : Option Int}, q3k n q l = true → (∀ k, q = some k → k < m.Node) → q3k n q (q5f m l) = true
 | [], q, _, hq => by
  cases q with
  | none => simp [q5f, q3k, hm, hn]
  | some k => simp [q5f, q3k, hm, hn, hq k rfl]
 | y :: r, q, h, hq => by
  have hi := q2n.1 h;rw [q5f];split
  ·rename_i hlt;have hr : q3k n (some y.Node) r = true := by
    rw [List.pairwise_cons] at hi;exact q2n.2 ⟨fun x hx => hi.1 x (by simp [hx]), fun k hk x hx => by cases hk; exact hi.2.2.1 x hx, hi.2.2.2⟩
   have ih := qea hm hn hr (fun k hk => by cases hk; exact hlt);have hj := q2n.1 ih;refine q2n.2 ⟨fun x hx => ?_, fun k hk x hx => ?_, List.pairwise_cons.2 ⟨fun x hx => hj.2.1 _ rfl x hx, hj.2.2⟩⟩
   ·rcases List.mem_cons.1 hx with e | hx
    ·subst e; exact hi.1 x (by simp)
    ·exact hj.1 x hx
   ·have hy := hi.2.1 k hk y (by simp);rcases List.mem_cons.1 hx with e | hx
    ·subst e; exact hy
    ·exact Int.lt_trans hy (hj.2.1 _ rfl x hx)
  ·rename_i hge;rw [List.pairwise_cons] at hi;split
   ·rename_i heq;refine q2n.2 ⟨fun x hx => ?_, fun k hk x hx => ?_, List.pairwise_cons.2 ⟨fun x hx => by rw [← heq]; exact hi.2.2.1 x hx, hi.2.2.2⟩⟩
    ·rcases List.mem_cons.1 hx with e | hx
     ·subst e; exact ⟨hm, hn⟩
     ·exact hi.1 x (by simp [hx])
    ·rcases List.mem_cons.1 hx with e | hx
     ·subst e; exact hq k hk
     ·exact hi.2.1 k hk x (by simp [hx])
   ·rename_i hne;have hlt : m.Node < y.Node := by omega
    refine q2n.2 ⟨fun x hx => ?_, fun k hk x hx => ?_, List.pairwise_cons.2 ⟨fun x hx => ?_, List.pairwise_cons.2 hi.2.2⟩⟩
    ·rcases List.mem_cons.1 hx with e | hx
     ·subst e; exact ⟨hm, hn⟩
     ·exact hi.1 x hx
    ·rcases List.mem_cons.1 hx with e | hx
     ·subst e; exact hq k hk
     ·exact hi.2.1 k hk x hx
    ·rcases List.mem_cons.1 hx with e | hx
     ·subst e; exact hlt
     ·exact Int.lt_trans hlt (hi.2.2.1 x hx)
def posN (k : Int) : List Nomination → Nat
 | [] => 0
 | x :: r => if x.Node < k then posN k r + 1 else 0
theorem qqj (k : Int) : ∀ l : List Nomination, posN k l ≤ l.length
 | [] => Nat.le_refl _
 | x :: r => by
  rw [posN]; split
  ·simp; exact qqj k r
  ·simp
theorem qd2 {k : Int} : ∀ {l : List Nomination}, l.Pairwise (fun a b => a.Node < b.Node) → ∀ (i : Nat) (x : Nomination), l[i]? = some x → (x.Node < k ↔ i < posN k l)
 | [], _, i, x, h => by simp at h
 | y :: r, hp, i, x, h => by
  rw [List.pairwise_cons] at hp;rw [posN];cases i with
  | zero =>
   simp at h; subst h;split <;> simp_all
  | succ i =>
   have h' : r[i]? = some x := by simpa using h
   have hyx := hp.1 x (List.mem_of_getElem? h');split
   ·rw [qd2 hp.2 i x h']; omega
   ·constructor
    ·intro g; omega
    ·intro g; omega
def q6n (k : Int) (l : List Nomination) : Bool := match l[posN k l]? with | some x => decide (x.Node = k) | none => false
theorem qi7 {m : Nomination} : ∀ {l : List Nomination}, q5f m l = if q6n m.Node l = true then l.set (posN m.Node l) m else l.take (posN m.Node l) ++ m :: l.drop (posN m.Node l)
 | [] => by simp [q5f, q6n, posN]
 | x :: r => by
  rw [q5f];by_cases h1 : x.Node < m.Node
  ·have hp : posN m.Node (x :: r) = posN m.Node r + 1 := by rw [posN, if_pos h1]
   have hf : q6n m.Node (x :: r) = q6n m.Node r := by simp [q6n, hp]
   rw [if_pos h1, qi7 (l := r), hp, hf];split <;> simp
  ·have hp : posN m.Node (x :: r) = 0 := by rw [posN, if_neg h1]
   have hf : q6n m.Node (x :: r) = decide (x.Node = m.Node) := by simp [q6n, hp]
   rw [if_neg h1, hp, hf];by_cases h2 : x.Node = m.Node <;> simp [h2]
theorem qjd {m : Nomination} {l : List Nomination} (hp : l.Pairwise (fun a b => a.Node < b.Node)) : oldN l m = match l[posN m.Node l]? with | some x => decide (x.Node = m.Node) && decide (m.Seq ≤ x.Seq) | none => false := by
 cases hx : l[posN m.Node l]? with
 | none =>
  rw [oldN, List.any_eq_false];intro x hx';obtain ⟨i, hi, rfl⟩ := List.mem_iff_getElem.1 hx';have h1 := (qd2 (k := m.Node) hp i l[i] (by simp [hi]));have h2 := List.getElem?_eq_none_iff.1 hx;have : l[i].Node < m.Node := h1.2 (by omega);simp; omega
 | some y =>
  show oldN l m = (decide (y.Node = m.Node) && decide (m.Seq ≤ y.Seq));rw [oldN, Bool.eq_iff_iff, List.any_eq_true];constructor
  ·rintro ⟨x, hx', h⟩;simp only [aT, dT'] at h;obtain ⟨i, hi, rfl⟩ := List.mem_iff_getElem.1 hx';have h1 := (qd2 (k := m.Node) hp i l[i] (by simp [hi]));have h3 := (qd2 (k := m.Node) hp _ y hx);have hge : posN m.Node l ≤ i := by
    have : ¬ l[i].Node < m.Node := by omega
    rw [h1] at this; omega
   have hpl := (List.getElem?_eq_some_iff.1 hx).1;have : i = posN m.Node l := by
    by_cases e : i = posN m.Node l
    ·exact e
    ·have hlt : posN m.Node l < i := by omega
     have := List.pairwise_iff_getElem.1 hp _ _ hpl hi hlt;have h4 : l[posN m.Node l] = y := (List.getElem?_eq_some_iff.1 hx).2;rw [h4] at this;have : ¬ y.Node < m.Node := by rw [h3]; omega
     omega
   subst this;have h4 : l[posN m.Node l] = y := (List.getElem?_eq_some_iff.1 hx).2;rw [h4] at h;simp [h]
  ·intro h;exact ⟨y, List.mem_of_getElem? hx, h⟩
theorem ReadyN.withH {n : Nominator} (h : ReadyN n) {m : Nomination} (hm : nomB m = true) (hn : m.Node ≠ n.Node) : ReadyN { n with Heard := q5f m n.Heard } :=
 ⟨h.node, h.slot, h.round, h.seq, h.tr, h.own, h.votes, h.accs, h.cands, h.sub, qea hm hn h.heard (fun k hk => by cases hk)⟩
theorem ReadyN.withT {n : Nominator} (h : ReadyN n) {t : Trust} (ht : valid t = true) : ReadyN { n with Trust := t } := ⟨h.node, h.slot, h.round, h.seq, ht, h.own, h.votes, h.accs, h.cands, h.sub, h.heard⟩
theorem ReadyN.withR {n : Nominator} (h : ReadyN n) {r : Int} (h1 : 1 ≤ r) (h2 : r ≤ 1000) : ReadyN { n with Round := r } := ⟨h.node, h.slot, ⟨h1, h2⟩, h.seq, h.tr, h.own, h.votes, h.accs, h.cands, h.sub, h.heard⟩
theorem ReadyN.withS {n : Nominator} (h : ReadyN n) {s : Int} (h1 : 1 ≤ s) (h2 : s ≤ 1000000) : ReadyN { n with Seq := s } := ⟨h.node, h.slot, h.round, ⟨h1, h2⟩, h.tr, h.own, h.votes, h.accs, h.cands, h.sub, h.heard⟩
theorem qtb (n : Nominator) (x : Val) : q98 (allN n) x = if x ∈ n.Votes then q98 n.Heard x ||| bit n.Node else q98 n.Heard x := by
 simp [q98, whoN, allN, List.foldl_append, sayN]
theorem qos (n : Nominator) (x : Val) : accsN (allN n) x = if x ∈ n.Accepts then accsN n.Heard x ||| bit n.Node else accsN n.Heard x := by
 simp [accsN, whoN, allN, List.foldl_append, sayN]
theorem quf (n : Nominator) : q3s (allN n) = q3s n.Heard ++ (n.Votes ++ n.Accepts) := by simp [q3s, allN, sayN]
theorem qvw {n w : Nominator} (h1 : n.Node = w.Node) (h2 : n.Trust = w.Trust) (h3 : n.Votes = w.Votes) (h4 : n.Accepts = w.Accepts) (h5 : n.Heard = w.Heard) (x : Val) : canN n x = canN w x := by
 simp only [canN, viewN, qtb, qos, h1, h2, h3, h4, h5]
theorem qj4 {n w : Nominator} (h1 : n.Node = w.Node) (h2 : n.Trust = w.Trust) (h3 : n.Votes = w.Votes) (h4 : n.Accepts = w.Accepts) (h5 : n.Heard = w.Heard) : nextN n = nextN w := by
 simp only [nextN, qi8, quf, h3, h4, h5];congr 1
 funext x; exact qvw h1 h2 h3 h4 h5 x
def confN (n : Nominator) (x : Val) : Bool := confB (viewN n) n.Node.toNat (accsN (allN n) x)
theorem qjb {n w : Nominator} (h1 : n.Node = w.Node) (h2 : n.Trust = w.Trust) (h4 : n.Accepts = w.Accepts) (h5 : n.Heard = w.Heard) (x : Val) : confN n x = confN w x := by
 simp only [confN, viewN, qos, h1, h2, h4, h5]
structure SetN (n : Nominator) : Prop where
 next : nextN n = none
 conf : ∀ x ∈ n.Accepts, confN n x = true → x ∈ n.Candidates
theorem q7z (L : List Int) (n : Nominator) : ∃ A C, q0x L n = { n with Votes := (q16 L n).Votes, Accepts := A, Candidates := C } ∧ (∀ x ∈ n.Votes, x ∈ (q16 L n).Votes) ∧ (∀ x ∈ n.Accepts, x ∈ A) ∧ (∀ x ∈ n.Candidates, x ∈ C) := by
 obtain ⟨A, h1, h2⟩ := qe0 60 (q16 L n);have h3 : q16 L n = { n with Votes := (q16 L n).Votes } := by unfold q16; split <;> rfl
 refine ⟨A, candN (q3g 60 (q16 L n)) (q3g 60 (q16 L n)).Candidates (q3g 60 (q16 L n)).Accepts, ?_, fun x hx => ?_, fun x hx => h2 x (by rw [h3]; exact hx), fun x hx => q7j _ _ _ ?_⟩
 ·show qgj (q3g 60 (q16 L n)) = _;unfold qgj;rw [h1, h3]
 ·unfold q16; split
  ·exact qtm L hx
  ·exact hx
 ·rw [h1, h3]; exact hx
theorem qnn {n : Nominator} (h : ReadyN n) (L : List Int) : SetN (q0x L n) := by
 obtain ⟨h1, h2⟩ := q8k 60 _ (h.listen L) (by omega);refine ⟨?_, fun x hx hc => ?_⟩
 ·rw [← h2]; exact qj4 rfl rfl rfl rfl rfl
 ·have hc' : confN (q3g 60 (q16 L n)) x = true := by rw [← hc]; exact qjb rfl rfl rfl rfl x
  exact qna _ h1.alen h1.avv _ _ h1.cands h1.sub (fun _ g => g) hx hc'
theorem SetN.cong {n w : Nominator} (h : SetN n) (h1 : n.Node = w.Node) (h2 : n.Trust = w.Trust) (h3 : n.Votes = w.Votes) (h4 : n.Accepts = w.Accepts) (h5 : n.Heard = w.Heard) (h6 : n.Candidates = w.Candidates) : SetN w :=
 ⟨by rw [← qj4 h1 h2 h3 h4 h5]; exact h.next, fun x hx hc => by rw [← h6]; exact h.conf x (by rw [h4]; exact hx) (by rw [← hc]; exact qjb h1 h2 h4 h5 x)⟩
def qad : Nominator := ⟨0, 0, 0, 0, ⟨0, [], []⟩, [], [], [], [], []⟩
theorem qd8 (b w : Nominator) : ∃ s : Int, (s = w.Seq ∨ s = w.Seq + 1) ∧ turnN b w = { w with Seq := s } ∧ (s = w.Seq ↔ b.Trust = w.Trust ∧ b.Votes = w.Votes ∧ b.Accepts = w.Accepts) := by
 unfold turnN;split
 ·rename_i h;exact ⟨w.Seq, .inl rfl, rfl, fun _ => h, fun _ => rfl⟩
 ·rename_i h;exact ⟨w.Seq + 1, .inr rfl, rfl, fun e => by omega, fun e => absurd e h⟩
structure StepN (n w : Nominator) : Prop where
 node : w.Node = n.Node
 slot : w.Slot = n.Slot
 seq : w.Seq = n.Seq ∨ w.Seq = n.Seq + 1
 votes : ∀ x ∈ n.Votes, x ∈ w.Votes
 accs : ∀ x ∈ n.Accepts, x ∈ w.Accepts
 cands : ∀ x ∈ n.Candidates, x ∈ w.Candidates
 ready : w.Seq ≤ 1000000 → ReadyN w
 chg : w.Seq = n.Seq ↔ n.Trust = w.Trust ∧ n.Votes = w.Votes ∧ n.Accepts = w.Accepts
theorem qtv {n u : Nominator} (hu : ReadyN u) (L : List Int) (h1 : u.Node = n.Node) (h2 : u.Slot = n.Slot) (h3 : u.Seq = n.Seq) (h4 : u.Votes = n.Votes) (h5 : u.Accepts = n.Accepts) (h6 : u.Candidates = n.Candidates) : StepN n (turnN n (q0x L u)) ∧ SetN (turnN n (q0x L u)) := by
 obtain ⟨s, g1, g2, g3⟩ := qd8 n (q0x L u);obtain ⟨A, C, f1, f2, f3, f4⟩ := q7z L u;have hr := hu.settle L;have hs := qnn hu L;have hq := hu.seq;rw [g2];refine ⟨⟨?_, ?_, ?_, ?_, ?_, ?_, fun hle => ?_, ?_⟩, hs.cong rfl rfl rfl rfl rfl rfl⟩
 ·show (q0x L u).Node = _; rw [f1]; exact h1
 ·show (q0x L u).Slot = _; rw [f1]; exact h2
 ·show s = _ ∨ s = _; rw [f1] at g1; rw [← h3]; exact g1
 ·intro x hx; show x ∈ (q0x L u).Votes; rw [f1]; exact f2 x (by rw [h4]; exact hx)
 ·intro x hx; show x ∈ (q0x L u).Accepts; rw [f1]; exact f3 x (by rw [h5]; exact hx)
 ·intro x hx; show x ∈ (q0x L u).Candidates; rw [f1]; exact f4 x (by rw [h6]; exact hx)
 ·have e1 : (q0x L u).Seq = u.Seq := by rw [f1]
  refine hr.withS ?_ hle;rw [e1] at g1; omega
 ·show s = n.Seq ↔ n.Trust = (q0x L u).Trust ∧ _;rw [← g3, f1]; show s = n.Seq ↔ s = u.Seq; rw [h3]
end Go.Proofs.YtglokalgdbegeaaGreat
namespace Go.Proofs.YtglokalgdbegeaaGreat
open Go Go.Ab Go.Sort
theorem qh7 (x : Val) : z41 x = some (vvl x) := by
 apply y7c;unfold leB vvl;by_cases h : 1 ≤ x.length
 ·have : (1 : Int) ≤ ((x.length : Nat) : Int) := by omega
  simp only [h, this, decide_true, cT, tA'];congr 1
  by_cases h2 : x.length ≤ 200
  ·have : ((x.length : Nat) : Int) ≤ 200 := by omega
   simp [h2, this]
  ·have : ¬ ((x.length : Nat) : Int) ≤ 200 := by omega
   simp [h2, this]
 ·have : ¬ (1 : Int) ≤ ((x.length : Nat) : Int) := by omega
  simp only [h, this, decide_false, cF, Bool.false_and]
theorem qxz (a b : Val) : z3y a b = some (if a < b then -1 else if a = b then 0 else 1) := by
 have hn : ∀ z, z3s z = some false := fun z => y5p _ _ (by simp [eqS])
 apply y6b;rw [hn, hn];simp only [bS, cF, qxf, leS];have h1 : Op.bytesLess a b = decide (a < b) := qxf a b;rw [h1];by_cases h : a < b
 ·simp [h]
 ·by_cases h' : a = b
  ·subst h'; simp [qjy]
  ·simp [h, h']
theorem qbm (a b : Val) : z06 a b = some (cmpv a b) := by
 apply y6o;rw [qci, qxz];simp only [bS, qrc];congr 1
 unfold cmpv ltv;by_cases h1 : a.length < b.length
 ·have : ((a.length : Nat) : Int) < ((b.length : Nat) : Int) := by omega
  simp [h1]
 ·by_cases h2 : b.length < a.length
  ·have hne : a.length ≠ b.length := by omega
   have hab : a ≠ b := fun e => hne (by rw [e])
   simp [h1, h2, hne, hab]
  ·have he : a.length = b.length := by omega
   simp [he]
theorem qri (l : List Val) (hl : l.length < 1152921504606846976) : ∀ (suf : List Val) (i : Nat) (z : Val), l[i]? = some z → l.drop (i + 1) = suf → z1x l l ((l.length : Nat) : Int) ((i + 1 : Nat) : Int) = some (plV (some z) suf && decide (l.length ≤ 40))
 | [], i, z, hz, h => by
  apply qs6;rw [q0k h, cF];unfold leB plV;congr 1
  by_cases h2 : l.length ≤ 40
  ·have : ((l.length : Nat) : Int) ≤ 40 := by omega
   simp [h2, this]
  ·have : ¬ ((l.length : Nat) : Int) ≤ 40 := by omega
   simp [h2, this]
 | y :: suf, i, z, hz, h => by
  have hlt := q0h h;apply qs6;rw [q07 h, cT, q06 h, qh7, bS, q04 (by omega), cT, q3e (by omega) (by omega), q15 (y := z) (by omega) (by rw [show (((i + 1 : Nat) : Int) - 1).toNat = i by omega]; exact hz), qbm, bS, y2s, q01 (by omega),
   qri l hl suf (i + 1) y (by have := congrArg (·[0]?) h; simpa using this) (q03 h)]
  rw [plV];cases vvl y <;> by_cases hc : ltv z y <;> simp [hc]
theorem qc0 (l : List Val) (hl : l.length < 1152921504606846976) : z2o l = some (q0v l) := by
 apply y6n;unfold q0v;cases l with
 | nil =>
  apply qs6;simp [ltB, plV, leB]
 | cons y r =>
  apply qs6;have h0 : ltB 0 (((y :: r).length : Nat) : Int) = true := q04 (by rw [List.length_cons]; omega);rw [h0, cT, q15 (y := y) (by omega) rfl, qh7, bS, q00 (by omega), cF, show addI .i64 0 1 = ((0 + 1 : Nat) : Int) from rfl, qri (y :: r) hl r 0 y rfl rfl, plV];cases vvl y <;> simp
theorem qsh (l : List Val) (hl : l.length < 1152921504606846976) (x : Val) : ∀ (suf : List Val) (i : Nat), l.drop i = suf → ∃ r : Int, z1g l x ((l.length : Nat) : Int) (i : Int) = some r ∧ leB 0 r = decide (x ∈ suf)
 | [], i, h => by
  refine ⟨-1, qyc _ _ _ _ _ ?_, by simp [leB]⟩;rw [q0k h]; simp
 | y :: suf, i, h => by
  have hlt := q0h h;obtain ⟨r, h1, h2⟩ := qsh l hl x suf (i + 1) (q03 h);by_cases hx : x = y
  ·refine ⟨i, qyc _ _ _ _ _ ?_, by simp [leB, hx]⟩;rw [q07 h, cT, q06 h]; simp [eqS, hx]
  ·refine ⟨r, qyc _ _ _ _ _ ?_, by rw [h2]; simp [hx]⟩;rw [q07 h, cT, q06 h, q01 (by omega), show eqS x y = false by simp [eqS, hx], cF, h1]
theorem qfh (l : List Val) (hl : l.length < 1152921504606846976) (x : Val) : z31 l x = some (decide (x ∈ l)) := by
 obtain ⟨r, h1, h2⟩ := qsh l hl x l 0 rfl;apply y8j;have h3 : z27 l x = some r := y76 _ _ _ h1;have : z21 l x = some (decide (x ∈ l)) := by
  apply y5x;rw [h3, bS, h2]
 rw [this]; rfl
theorem q74 (l : List Val) (hl : l.length < 1000000) : z1c l = some ((), l) := y5r _ _ (by rw [q0o (by simp [q0f]; omega)]; rfl)
theorem qgs (l : List Nomination) (hl : l.length < 1000000) : z1i l = some ((), l) := y6q _ _ (by rw [q0o (by simp [q0f]; omega)]; rfl)
def posV (x : Val) : List Val → Nat
 | [] => 0
 | y :: r => if ltv y x then posV x r + 1 else 0
theorem qlo (x : Val) : ∀ l : List Val, posV x l ≤ l.length
 | [] => Nat.le_refl _
 | y :: r => by
  rw [posV]; split
  ·simp; exact qlo x r
  ·simp
theorem qd6 {x : Val} : ∀ {l : List Val}, Asc l → ∀ (i : Nat) (y : Val), l[i]? = some y → (ltv y x ↔ i < posV x l)
 | [], _, i, y, h => by simp at h
 | z :: r, hp, i, y, h => by
  have hp := List.pairwise_cons.1 hp;rw [posV];cases i with
  | zero =>
   simp at h; subst h;split <;> simp_all
  | succ i =>
   have h' : r[i]? = some y := by simpa using h
   have hzy := hp.1 y (List.mem_of_getElem? h');split
   ·rw [qd6 hp.2 i y h']; omega
   ·rename_i hz;constructor
    ·intro g; exact absurd (q5o hzy g) hz
    ·intro g; omega
theorem qrg {l : List Val} {x : Val} (h : Asc l) : x ∈ l ↔ ∃ y, l[posV x l]? = some y ∧ y = x := by
 constructor
 ·intro hx;obtain ⟨i, hi⟩ := List.getElem?_of_mem hx;have h1 := qd6 (x := x) h i x hi;have hge : posV x l ≤ i := by
   have : ¬ i < posV x l := fun e => q28 x (h1.2 e)
   omega
  have hil : i < l.length := (List.getElem?_eq_some_iff.1 hi).1;have hpl : posV x l < l.length := by omega
  refine ⟨l[posV x l], List.getElem?_eq_getElem hpl, ?_⟩;have h2 := qd6 (x := x) h _ l[posV x l] (List.getElem?_eq_getElem hpl);have h3 : ¬ ltv l[posV x l] x := fun e => by have := h2.1 e; omega
  by_cases e : posV x l = i
  ·rw [← e] at hi; rw [List.getElem?_eq_getElem hpl] at hi; exact Option.some.inj hi
  ·have := List.pairwise_iff_getElem.1 h _ _ hpl hil (by omega);have hxe : l[i] = x := (List.getElem?_eq_some_iff.1 hi).2;rw [hxe] at this; exact absurd this h3
 ·rintro ⟨y, hy, rfl⟩; exact List.mem_of_getElem? hy
theorem quz : ∀ i : Fin 41, ∀ j : Fin 41, IntKind.wrap .i64 (shrI .u64 (IntKind.wrap .u64 (addI .i64 ((i.val : Nat) : Int) ((j.val : Nat) : Int))) 1) = (((i.val + j.val) / 2 : Nat) : Int) := by decide +kernel
theorem qp1 {l : List Val} (hl : l.length ≤ 40) (hp : Asc l) (x : Val) : ∀ (n i j : Nat), j - i ≤ n → i ≤ posV x l → posV x l ≤ j → j ≤ l.length →
  z0c l x ((l.length : Nat) : Int) (i : Int) (j : Int) = some (((posV x l : Nat) : Int), decide (x ∈ l))
 | n, i, j, hn, hi, hj, hjl => by
  apply y83;by_cases hij : i < j
  ·obtain ⟨n, rfl⟩ : ∃ m, n = m + 1 := ⟨n - 1, by omega⟩;have hmid := quz ⟨i, by omega⟩ ⟨j, by omega⟩
   dsimp only at hmid
   have hml : (i + j) / 2 < l.length := by omega
   have hg : l[(i + j) / 2]? = some l[(i + j) / 2] := by simp [hml]
   have hpl := qd6 (x := x) hp _ _ hg;rw [q04 (by omega), cT, hmid, q15 (by omega) (by rw [tN]; exact hg), qbm, bS, qqo];by_cases h1 : ltv l[(i + j) / 2] x
   ·rw [decide_eq_true h1, cT, q01 (by omega)];exact qp1 hl hp x n ((i + j) / 2 + 1) j (by omega) (by have := hpl.1 h1; omega) hj hjl
   ·rw [decide_eq_false h1, cF];exact qp1 hl hp x n i ((i + j) / 2) (by omega) hi (by have : ¬ (i + j) / 2 < posV x l := fun h => h1 (hpl.2 h); omega) (by omega)
  ·have hij' : i = posV x l := by omega
   subst hij';rw [q00 (by omega), cF];by_cases he : posV x l < l.length
   ·have hg : l[posV x l]? = some l[posV x l] := List.getElem?_eq_getElem he;rw [q04 (by omega), cT, q15 (by omega) (by rw [tN]; exact hg), qbm, bS, y2w];have : (l[posV x l] = x) ↔ x ∈ l := by rw [qrg hp, hg]; simp
    rw [decide_eq_decide.2 this]
   ·rw [q00 (by omega), cF];have : x ∉ l := fun e => by
     obtain ⟨y, hy, _⟩ := (qrg hp).1 e;rw [List.getElem?_eq_none (by omega)] at hy; cases hy
    rw [decide_eq_false this]
def encV (x : Val) : D := .v (.string ⟨⟨x⟩⟩)
theorem qvh (l : List Val) : (l.map encV).all (q5q 1) = true := by
 rw [List.all_eq_true]; intro x hx; obtain ⟨y, _, rfl⟩ := List.mem_map.1 hx; rfl
theorem qqv (l : List Val) (hl : l.length < 1000000) (m : Val) (i : Nat) (hi : i ≤ l.length) : z4v (i : Int) [m] l = some (l.take i ++ m :: l.drop i, ()) := by
 refine qhq (T := tn) (m := q2j 1) sigOk (by kernel_rfl) rfl ?_;show libA (q2j 1) [.ref 0, .d (.v (.int .i64 i)), .d (.list [encV m])] [[.own (l.map encV) false]] = some (.d (.list ((l.take i ++ m :: l.drop i).map encV)), [[.undef]]);unfold libA q2j;have h1 : (i : Int) ≤ ((l.map encV).length : Int) := by simp; omega
 have h2 : (l.map encV).length < q0f := by simp [q0f]; omega
 have h3 : q5q 1 (encV m) = true := rfl;simp only [Int.natCast_nonneg, h1, h2, h3, qvh, and_self, if_true, tN];simp only [List.map_append, List.map_cons, List.map_take, List.map_drop];rfl
theorem qfq {l : List Val} {x : Val} (hl : q0v l = true) : z3g l x = some (putV l x) := by
 obtain ⟨_, ha, hlen⟩ := q0g.1 hl;apply y56;have h1 : z0w l x = some (((posV x l : Nat) : Int), decide (x ∈ l)) :=
  y7u _ _ _ (qp1 hlen ha x l.length 0 l.length (by omega) (by omega) (qlo x l) (Nat.le_refl _))
 rw [h1, bS];unfold putV;by_cases hx : x ∈ l
 ·simp [hx]
 ·simp only [hx, decide_false, cF, false_or];by_cases h40 : 40 ≤ l.length
  ·rw [if_pos h40, show leB 40 ((l.length : Nat) : Int) = true by unfold leB; simp; omega, cT]
  ·rw [if_neg h40, show leB 40 ((l.length : Nat) : Int) = false by unfold leB; simp; omega, cF, q74 l (by omega), bS]
   dsimp only
   rw [qqv l (by omega) x _ (qlo x l), bS];congr 1
   refine (qv0 ha (qlo x l) (fun y hy => ?_) (fun y hy => ?_)).symm
   ·obtain ⟨i, hi⟩ := List.getElem?_of_mem hy;rw [List.getElem?_take] at hi;split at hi
    ·exact (qd6 ha i y hi).2 (by assumption)
    ·cases hi
   ·obtain ⟨i, hi⟩ := List.getElem?_of_mem hy;rw [List.getElem?_drop] at hi;refine q95 (fun e => hx (by rw [e]; exact List.mem_of_getElem? hi)) fun g => ?_
    have := (qd6 ha _ y hi).1 g;omega
theorem qza (a b : Val) (h : encV a = encV b) : a = b := by cases h; rfl
theorem qoo (l : List Val) (hl : l.length < 1000000) : z4q l = some (q08 l, ()) := by
 refine qhq (T := tn) (m := q4c) sigOk (by kernel_rfl) rfl ?_;show libA q4c [.ref 0] [[.own (l.map encV) false]] = some (.d (.list ((q08 l).map encV)), [[.undef]]);have h1 : (l.map encV).length ≤ q0f := by simp [q0f]; omega
 have key : q4c [.ref 0] [[.own (l.map encV) false]] = some (.d (.list (q08 (l.map encV))), [[.undef]]) := by
  show (if _ ∧ _ then _ else _) = _;rw [if_pos ⟨by rw [List.all_eq_true]; intro x hx; obtain ⟨y, _, rfl⟩ := List.mem_map.1 hx; rfl, h1⟩]
 unfold libA;rw [key, q8f (fun a b h => qza a b h) l];rfl
theorem q5x {x : Val} : ∀ {l : List Val}, x ∈ q08 l ↔ x ∈ l
 | [] => Iff.rfl
 | [y] => Iff.rfl
 | y :: z :: r => by
  rw [q1c];split
  ·rename_i e;subst e;rw [q5x (l := y :: r)]; simp
  ·simp only [List.mem_cons, q5x (l := z :: r)]
theorem q8i : ∀ {l : List Val}, l.Pairwise (fun x y => ¬ ltv y x) → Asc (q08 l)
 | [], _ => List.Pairwise.nil
 | [y], _ => by simp [q08]
 | y :: z :: r, h => by
  rw [List.pairwise_cons] at h;rw [q1c];split
  ·exact q8i h.2
  ·rename_i e;refine List.pairwise_cons.2 ⟨fun u hu => ?_, q8i h.2⟩;have hyz := q95 e (h.1 z (by simp));rcases List.mem_cons.1 (q5x.1 hu) with rfl | hu
   ·exact hyz
   ·by_cases e2 : z = u
    ·subst e2; exact hyz
    ·exact q5o hyz (q95 e2 ((List.pairwise_cons.1 h.2).1 u hu))
theorem swoV : SWO (fun x y => ltB (cmpv x y) 0) := by
 refine ⟨fun x => ?_, fun x y z h h' => ?_, fun x y z h h' => ?_⟩ <;> simp only [qqo, dT', decide_eq_false_iff_not] at *
 ·exact q28 x
 ·exact q5o h h'
 ·intro g;by_cases e : x = y
  ·subst e; exact h' g
  ·by_cases e2 : y = z
   ·subst e2; exact h g
   ·exact qc4 (q5o (q95 (fun e' => e2 e'.symm) h') (q95 (fun e' => e e'.symm) h)) g
theorem qsb (l : List Nomination) (hl : l.length ≤ 11) (hm : ∀ m ∈ l, nomB m = true) : ∀ (suf : List Nomination) (i : Nat) (acc : List Val), i ≤ l.length → l.drop i = suf → acc.length ≤ 80 * i → z36 acc l ((l.length : Nat) : Int) (i : Int) = some (setV (acc ++ q3s suf))
 | [], i, acc, hi, h, ha => by
  apply y1e;rw [q0k h, cF];obtain ⟨ys, h3, h4, h5⟩ := y3m qbm swoV acc (by omega);rw [h3, bS, qoo ys (by rw [h4.length_eq]; omega)];show some (q08 ys) = _;congr 1
  refine qxd (q8i (h5.imp fun h => by simpa [qqo] using h)) fun x => ?_
  rw [q5x, h4.mem_iff]; simp [q3s]
 | y :: suf, i, acc, hi, h, ha => by
  have hlt := q0h h;have hy := hm y (List.mem_of_mem_drop (i := i) (by rw [h]; simp));obtain ⟨_, _, _, hv1, hv2⟩ := q1v.1 hy;have hv1 := (q0g.1 hv1).2.2;have hv2 := (q0g.1 hv2).2.2;apply y1e;rw [q07 h, cT, q06 h, q0o (by simp [q0f]; omega), q0o (by simp [q0f]; omega), q01 (by omega),
   qsb l hl hm suf (i + 1) _ (by omega) (q03 h) (by simp; omega)]
  simp [q3s]
theorem qsp {l : List Nomination} (hl : l.length ≤ 11) (hm : ∀ m ∈ l, nomB m = true) : z3z l = some (setV (q3s l)) :=
 y8m _ _ (qsb l hl hm l 0 [] (by omega) rfl (by simp))
end Go.Proofs.YtglokalgdbegeaaGreat
namespace Go.Proofs.YtglokalgdbegeaaGreat
open Go Go.Ab
mutual
def wgt (k : Int) : Trust → Option (Int × Int)
 | ⟨t, ns, is⟩ => if ns.contains k then some (t, ((ns.length + is.length : Nat) : Int)) else (wgts k is).map fun p => (t * p.1, ((ns.length + is.length : Nat) : Int) * p.2)
def wgts (k : Int) : List Trust → Option (Int × Int)
 | [] => none
 | x :: r => match wgt k x with
  | some p => some p
  | none => wgts k r
end
theorem qsd (k : Int) (t : Trust) : wgt k t = if t.Nodes.contains k then some (t.Threshold, ((t.Nodes.length + t.Inner.length : Nat) : Int)) else (wgts k t.Inner).map fun p => (t.Threshold * p.1, ((t.Nodes.length + t.Inner.length : Nat) : Int) * p.2) := by cases t; simp only [wgt]
theorem qsf {k : Int} {p : Int × Int} : ∀ {l : List Trust}, wgts k l = some p → ∃ x ∈ l, wgt k x = some p
 | [], h => by simp [wgts] at h
 | x :: r, h => by
  rw [wgts] at h;cases hx : wgt k x with
  | some q => rw [hx] at h; exact ⟨x, by simp, by rw [hx]; exact h⟩
  | none =>
   rw [hx] at h;obtain ⟨y, h1, h2⟩ := qsf h;exact ⟨y, by simp [h1], h2⟩
theorem qd5 : ∀ {l : List Trust} {x : Trust}, goods l = true → x ∈ l → good x = true
 | [], x, _, h => by simp at h
 | y :: r, x, h, hx => by
  rw [goods, aT] at h;rcases List.mem_cons.1 hx with e | hx
  ·rw [e]; exact h.1
  ·exact qd5 h.2 hx
theorem qb6 : ∀ {l : List Trust} {x : Trust}, x ∈ l → depth x ≤ q2s l
 | [], x, h => by simp at h
 | y :: r, x, h => by
  rw [q2s];rcases List.mem_cons.1 h with e | h
  ·rw [e]; omega
  ·have := qb6 h; omega
theorem qoe (k : Int) : ∀ (t : Trust), good t = true → size t ≤ 200 → ∀ p, wgt k t = some p → 1 ≤ p.1 ∧ p.1 ≤ p.2 ∧ p.2 ≤ ((200 ^ depth t : Nat) : Int) := by
 apply Trust.ind;intro t ih hg hs p hp;rw [qdb] at hg;simp only [aT, dT'] at hg;obtain ⟨g1, g2, _, _, g5⟩ := hg;have hsz := hs;rw [q33] at hsz;rw [qsd] at hp;rw [qbu];split at hp
 ·cases hp;refine ⟨g1, g2, ?_⟩;have h1 : 1 ≤ 200 ^ q2s t.Inner := Nat.one_le_pow _ _ (by decide);have h2 : 200 ^ (q2s t.Inner + 1) = 200 ^ q2s t.Inner * 200 := Nat.pow_succ ..;show ((t.Nodes.length + t.Inner.length : Nat) : Int) ≤ _;rw [h2];have : t.Nodes.length + t.Inner.length ≤ 200 ^ q2s t.Inner * 200 := by omega
  exact Int.ofNat_le.2 this
 ·cases hw : wgts k t.Inner with
  | none => rw [hw] at hp; cases hp
  | some q =>
   rw [hw] at hp; cases hp;obtain ⟨x, hx, hxw⟩ := qsf hw;have hsx := qfz hx;obtain ⟨a1, a2, a3⟩ := ih x hx (qd5 g5 hx) (by omega) q hxw;have hdx := qb6 hx;have hpow : 200 ^ depth x ≤ 200 ^ q2s t.Inner := Nat.pow_le_pow_right (by decide) hdx;have a4 : q.2 ≤ ((200 ^ q2s t.Inner : Nat) : Int) := Int.le_trans a3 (Int.ofNat_le.2 hpow);generalize hn : t.Nodes.length + t.Inner.length = n at *;have hn200 : (n : Int) ≤ 200 := by omega
   refine ⟨?_, ?_, ?_⟩
   ·show 1 ≤ t.Threshold * q.1;have := Int.mul_le_mul g1 a1 (by omega) (by omega : (0 : Int) ≤ t.Threshold);omega
   ·show t.Threshold * q.1 ≤ (n : Int) * q.2;exact Int.mul_le_mul g2 a2 (by omega) (by omega)
   ·show (n : Int) * q.2 ≤ _;have := Int.mul_le_mul hn200 a4 (by omega) (by omega : (0 : Int) ≤ 200);rw [Nat.pow_succ, Nat.mul_comm];rw [Int.natCast_mul];exact this
theorem qml {k : Int} {t : Trust} (h : valid t = true) {p : Int × Int} (hp : wgt k t = some p) : 1 ≤ p.1 ∧ p.1 ≤ p.2 ∧ p.2 ≤ 1600000000 := by
 simp only [valid, aT, dT'] at h;obtain ⟨a, b, c⟩ := qoe k t h.2.2 h.2.1 p hp;refine ⟨a, b, Int.le_trans c ?_⟩;have : 200 ^ depth t ≤ 200 ^ 4 := Nat.pow_le_pow_right (by decide) h.1;have h4 : 200 ^ 4 = 1600000000 := by decide
 rw [h4] at this;omega
theorem qx6 (k s r n : Int) : ∃ h, z3o k s r n = some h ∧ 0 ≤ h ∧ h < 4294967296 := by
 have rng : ∀ z : Int, 0 ≤ IntKind.wrap .u32 z ∧ IntKind.wrap .u32 z < 4294967296 := fun z => by
  have : IntKind.wrap .u32 z = z % 4294967296 := by
   show (if (false && decide (z % 4294967296 ≥ 2147483648)) = true then z % 4294967296 - 4294967296 else z % 4294967296) = _;simp
  rw [this]; omega
 exact ⟨_, y1x _ _ _ _ _ rfl, (rng _).1, (rng _).2⟩
noncomputable def hsh (k s r n : Int) : Int := (z3o k s r n).getD 0
theorem qfe (k s r n : Int) : z3o k s r n = some (hsh k s r n) := by
 obtain ⟨h, h1, _⟩ := qx6 k s r n;rw [hsh, h1]; rfl
theorem qcn (k s r n : Int) : 0 ≤ hsh k s r n ∧ hsh k s r n < 4294967296 := by
 obtain ⟨h, h1, h2⟩ := qx6 k s r n;rw [hsh, h1]; exact h2
theorem qkc (k s r n : Int) : z58 k s r n = some (hsh k s r n) := by
 refine y7i _ _ _ _ _ ?_;rw [← qfe];exact (y1x _ _ _ _ _ rfl).symm
theorem qy6 (l : List Int) (hl : l.length < 1152921504606846976) (x : Int) : ∀ (suf : List Int) (i : Nat), l.drop i = suf → ∃ r : Int, z1n l x ((l.length : Nat) : Int) (i : Int) = some r ∧ leB 0 r = suf.contains x
 | [], i, h => by
  refine ⟨-1, qxc _ _ _ _ _ ?_, by simp [leB]⟩;rw [q0k h]; simp
 | y :: suf, i, h => by
  have hlt := q0h h;obtain ⟨r, h1, h2⟩ := qy6 l hl x suf (i + 1) (q03 h);by_cases hx : x = y
  ·refine ⟨i, qxc _ _ _ _ _ ?_, by simp [leB, hx]⟩;rw [q07 h, cT, q06 h]; simp [eqB, hx]
  ·refine ⟨r, qxc _ _ _ _ _ ?_, by rw [h2]; simp [hx]⟩;rw [q07 h, cT, q06 h, q01 (by omega), q3p hx, cF, h1]
theorem qzc (l : List Int) (hl : l.length < 1152921504606846976) (x : Int) : z2h l x = some (l.contains x) := by
 obtain ⟨r, h1, h2⟩ := qy6 l hl x l 0 rfl;apply y6r;have h3 : z34 l x = some r := y5t _ _ _ h1;rw [h3, bS, h2]
def wFrac : Option (Int × Int) → Frac × Bool
 | some p => (⟨p.1, p.2⟩, true)
 | none => (⟨0, 0⟩, false)
theorem qni (k : Int) (x : Trust) (r : List Trust) : wgts k (x :: r) = match wgt k x with | some p => some p | none => wgts k r := by rw [wgts]; first | done | (cases wgt k x <;> rfl)
structure WOk (t : Trust) : Prop where
 gd : good t = true
 sz : size t ≤ 200
 dp : depth t ≤ 4
theorem WOk.mem {t x : Trust} (h : WOk t) (hx : x ∈ t.Inner) : WOk x ∧ depth x + 1 ≤ 4 ∧ t.Nodes.length + t.Inner.length ≤ 200 ∧ 1 ≤ t.Threshold ∧ t.Threshold ≤ 200 := by
 obtain ⟨h1, h2, h3⟩ := h;have hsx := qfz hx;have hdx := qb6 hx;have h1' := h1;rw [qdb] at h1';simp only [aT, dT'] at h1';obtain ⟨g1, g2, _, _, g5⟩ := h1';have hsz := h2;rw [q33] at hsz;rw [qbu] at h3;exact ⟨⟨qd5 g5 hx, by omega, by omega⟩, by omega, by omega, g1, by omega⟩
theorem WOk.range {t : Trust} (h : WOk t) {k : Int} {p : Int × Int} (hp : wgt k t = some p) : 1 ≤ p.1 ∧ p.1 ≤ p.2 ∧ p.2 ≤ ((200 ^ depth t : Nat) : Int) := qoe k t h.gd h.sz p hp
theorem WOk.prod {t x : Trust} (h : WOk t) (hx : x ∈ t.Inner) {k : Int} {p : Int × Int} (hp : wgt k x = some p) :
  mulI .i64 t.Threshold p.1 = t.Threshold * p.1 ∧ mulI .i64 ((t.Nodes.length + t.Inner.length : Nat) : Int) p.2 = ((t.Nodes.length + t.Inner.length : Nat) : Int) * p.2 := by
 obtain ⟨hw, hd, hn, ht1, ht2⟩ := h.mem hx;obtain ⟨r1, r2, r3⟩ := hw.range hp;have hpow : 200 ^ depth x ≤ 200 ^ 3 := Nat.pow_le_pow_right (by decide) (by omega);have h3 : (200 : Nat) ^ 3 = 8000000 := by decide
 generalize 200 ^ depth x = D at *;generalize t.Nodes.length + t.Inner.length = n at *;have b1 : t.Threshold * p.1 ≤ 200 * 8000000 := Int.mul_le_mul ht2 (by omega) (by omega) (by omega);have b2 : (n : Int) * p.2 ≤ 200 * 8000000 := Int.mul_le_mul (by omega) (by omega) (by omega) (by omega);have b3 : 0 ≤ t.Threshold * p.1 := Int.mul_nonneg (by omega) (by omega);have b4 : 0 ≤ (n : Int) * p.2 := Int.mul_nonneg (by omega) (by omega);exact ⟨wrap64 (by omega) (by omega), wrap64 (by omega) (by omega)⟩
theorem y36 (k : Int) : ∀ t : Trust, WOk t → z4o t k = some (wFrac (wgt k t)) := by
 apply Trust.ind;intro t ih h;have hsz := h.sz;rw [q33] at hsz;apply y6x;rw [qzc _ (by omega), bS, q2c (by omega) (by omega), qsd];cases hc : t.Nodes.contains k with
 | true => simp [wFrac]
 | false =>
  rw [cF];have l1 : ∀ (suf : List Trust) (i : Nat), t.Inner.drop i = suf → z37 k t.Inner ((t.Inner.length : Nat) : Int) (i : Int) t.Threshold t.Nodes t.Inner 0 0 t.Threshold ((t.Nodes.length : Int) + (t.Inner.length : Int)) =
    some (wFrac ((wgts k suf).map fun p => (t.Threshold * p.1, ((t.Nodes.length + t.Inner.length : Nat) : Int) * p.2))) := by
   intro suf;induction suf with
   | nil =>
    intro i h';apply y0o;rw [q0k h']; simp [wgts, wFrac]
   | cons y suf ihs =>
    intro i h';have hlt := q0h h';have hy : y ∈ t.Inner := List.mem_of_mem_drop (i := i) (by rw [h']; simp);apply y0o;rw [q07 h', cT, q06 h', ih y hy (h.mem hy).1, bS, qni];cases hw : wgt k y with
    | some p =>
     obtain ⟨p1, p2⟩ := h.prod hy hw;have e : ((t.Nodes.length : Int) + (t.Inner.length : Int)) = ((t.Nodes.length + t.Inner.length : Nat) : Int) := by omega
     rw [e];simp only [wFrac, cT];rw [p1, p2]; rfl
    | none => simp only [wFrac, cF]; rw [q01 (by omega)]; exact ihs (i + 1) (q03 h')
  exact (l1 t.Inner 0 rfl).trans (by simp)
theorem y3v (k : Int) : ∀ t : Trust, WOk t → z53 t k = some (wFrac (wgt k t)) := by
 apply Trust.ind;intro t ih h;have hsz := h.sz;rw [q33] at hsz;apply y5s;rw [q2c (by omega) (by omega), qsd];have e : ((t.Nodes.length : Int) + (t.Inner.length : Int)) = ((t.Nodes.length + t.Inner.length : Nat) : Int) := by omega
 rw [e];have l2 : ∀ (suf : List Trust) (i : Nat), t.Inner.drop i = suf → z3r k ((t.Nodes.length + t.Inner.length : Nat) : Int) t.Inner ((t.Inner.length : Nat) : Int) (i : Int) t.Threshold t.Nodes t.Inner 0 0 =
   some (wFrac ((wgts k suf).map fun p => (t.Threshold * p.1, ((t.Nodes.length + t.Inner.length : Nat) : Int) * p.2))) := by
  intro suf;induction suf with
  | nil =>
   intro i h';apply y0z;rw [q0k h']; simp [wgts, wFrac]
  | cons y suf ihs =>
   intro i h';have hlt := q0h h';have hy : y ∈ t.Inner := List.mem_of_mem_drop (i := i) (by rw [h']; simp);apply y0z;rw [q07 h', cT, q06 h', ih y hy (h.mem hy).1, bS, qni];cases hw : wgt k y with
   | some p =>
    obtain ⟨p1, p2⟩ := h.prod hy hw;simp only [wFrac, cT];rw [p1, p2]; rfl
   | none => simp only [wFrac, cF]; rw [q01 (by omega)]; exact ihs (i + 1) (q03 h')
 have l1 : ∀ (suf : List Int) (i : Nat), t.Nodes.drop i = suf → z3p k ((t.Nodes.length + t.Inner.length : Nat) : Int) t.Nodes ((t.Nodes.length : Nat) : Int) (i : Int) t.Threshold t.Nodes t.Inner 0 0 =
   some (wFrac (if suf.contains k then some (t.Threshold, ((t.Nodes.length + t.Inner.length : Nat) : Int)) else (wgts k t.Inner).map fun p => (t.Threshold * p.1, ((t.Nodes.length + t.Inner.length : Nat) : Int) * p.2))) := by
  intro suf;induction suf with
  | nil =>
   intro i h';apply y0e;rw [q0k h', cF];exact (l2 t.Inner 0 rfl).trans (by simp)
  | cons y suf ihs =>
   intro i h';have hlt := q0h h';apply y0e;rw [q07 h', cT, q06 h'];by_cases hy : y = k
   ·subst hy; rw [q2f]; simp [wFrac]
   ·rw [q3p hy, cF, q01 (by omega), ihs (i + 1) (q03 h')];have : k ≠ y := fun e => hy e.symm
    simp [this]
 exact l1 t.Nodes 0 rfl
theorem WOk.of {t : Trust} (h : valid t = true) : WOk t := by
 simp only [valid, aT, dT'] at h;exact ⟨h.2.2, h.2.1, h.1⟩
noncomputable def nghB (t : Trust) (v slot round k : Int) : Bool := decide (k = v) || match wgt k t with | some p => decide (hsh 1 slot round k * p.2 < p.1 * 4294967296) | none => false
theorem qng {n : Int} (h0 : 0 ≤ n) (h : n < 18446744073709551616) : IntKind.wrap .u64 n = n := by
 show (if (false && decide (n % 18446744073709551616 ≥ 9223372036854775808)) = true then n % 18446744073709551616 - 18446744073709551616 else n % 18446744073709551616) = _;simp only [Bool.false_and, fT, if_false];exact Int.emod_eq_of_lt h0 h
theorem qmx {t : Trust} (h : valid t = true) {k : Int} {p : Int × Int} (hp : wgt k t = some p) (s r n : Int) : 0 ≤ hsh 1 s r n * p.2 ∧ hsh 1 s r n * p.2 < 9223372036854775808 ∧ 0 ≤ p.1 ∧ p.1 * 4294967296 < 9223372036854775808 := by
 obtain ⟨a1, a2, a3⟩ := qml h hp;obtain ⟨b1, b2⟩ := qcn 1 s r n;have := Int.mul_le_mul (show hsh 1 s r n ≤ 4294967296 by omega) a3 (by omega) (by omega : (0 : Int) ≤ 4294967296);exact ⟨Int.mul_nonneg b1 (by omega), by omega, by omega, by omega⟩
theorem qph {t : Trust} (h : valid t = true) (v slot round k : Int) : z4j t v slot round k = some (nghB t v slot round k) := by
 apply y6d;unfold nghB;by_cases e : k = v
 ·subst e; rw [q2f]; simp
 ·rw [q3p e, cF, y36 k t (WOk.of h), bS];cases hw : wgt k t with
  | none => simp [wFrac, e]
  | some p =>
   obtain ⟨c1, c2, c3, c4⟩ := qmx h hw slot round k;obtain ⟨a1, a2, a3⟩ := qml h hw;obtain ⟨b1, b2⟩ := qcn 1 slot round k;simp only [wFrac, cT, qfe, bS];rw [qng b1 (by omega), qng (n := p.2) (by omega) (by omega), qng (n := p.1) c3 (by omega)];have e1 : mulI .u64 (hsh 1 slot round k) p.2 = hsh 1 slot round k * p.2 := qng c1 (by omega);have e2 : shlI .u64 p.1 32 = p.1 * 4294967296 := by
    show IntKind.wrap .u64 (p.1 * 4294967296) = _;exact qng (by omega) (by omega)
   rw [e1, e2];simp [ltB, e]
structure AskOk (t : Trust) (v slot round : Int) : Prop where
 tr : valid t = true
 node : inR v = true
 slot : 0 ≤ slot ∧ slot ≤ 1000000
 round : 1 ≤ round ∧ round ≤ 1000
theorem y3k {t : Trust} {v slot round : Int} (h : AskOk t v slot round) : z5c t v slot round = some 0 := by
 apply y4q;have h0 : verr t = 0 := (q3l t).2 h.tr;obtain ⟨h1, h2, h3, h4⟩ := h;simp only [inR, aT, dT'] at h2;rw [q7r _ (q1p h1), bS, h0, q00 (by omega), q09 (by omega), q00 (by omega), q00 (by omega), q00 (by omega), q00 (by omega)];rfl
theorem qya {t : Trust} {v slot round : Int} (h : AskOk t v slot round) : z5e t v slot round = some 0 := by
 apply y86;have h0 : verr t = 0 := (q3l t).2 h.tr;obtain ⟨h1, h2, h3, h4⟩ := h;simp only [inR, aT, dT'] at h2;rw [qyz _ (q1p h1), bS, h0, q00 (by omega), q09 (by omega), q00 (by omega), q00 (by omega), q00 (by omega), q00 (by omega)];rfl
theorem y2x {t : Trust} {v slot round : Int} (h : AskOk t v slot round) {k : Int} (hk : inR k = true) : z4w t v slot round k = some (nghB t v slot round k) := by
 apply y5z;have hk' := hk;simp only [inR, aT, dT'] at hk';unfold nghB;rw [qya h, bS, q13, cF, q00 (by omega), cF, q09 (by omega), cF, y3v k t (WOk.of h.tr), bS];by_cases e : k = v
 ·subst e; rw [q2f]; simp
 ·rw [q3p e, cF];cases hw : wgt k t with
  | none => simp [wFrac, e]
  | some p =>
   obtain ⟨c1, c2, c3, c4⟩ := qmx h.tr hw slot round k;obtain ⟨b1, b2⟩ := qcn 1 slot round k;simp only [wFrac, cT, qkc, bS];rw [wrap64 (n := hsh 1 slot round k) (by omega) (by omega)];have e1 : mulI .i64 (hsh 1 slot round k) p.2 = hsh 1 slot round k * p.2 := wrap64 (by omega) (by omega);have e2 : shlI .i64 p.1 32 = p.1 * 4294967296 := by
    show IntKind.wrap .i64 (p.1 * 4294967296) = _;exact wrap64 (by omega) (by omega)
   rw [e1, e2];simp [ltB, e]
structure Lead (N : Int → Bool) (h : Int → Int) (b : Int) : Prop where
 node : inR b = true
 ngh : N b = true
 most : ∀ k, inR k = true → N k = true → h k < h b ∨ h k = h b ∧ k ≤ b
theorem Lead.uniq {N : Int → Bool} {h : Int → Int} {b c : Int} (hb : Lead N h b) (hc : Lead N h c) : b = c := by
 have h1 := hb.most c hc.node hc.ngh;have h2 := hc.most b hb.node hb.ngh;omega
theorem qk3 {t : Trust} (ht : valid t = true) {v slot round : Int} (hv : inR v = true) : ∀ (n i : Nat) (b m : Int), i + n = 10 → (∀ k, inR k = true → k < (i : Int) → nghB t v slot round k = true → hsh 2 slot round k < m ∨ hsh 2 slot round k = m ∧ k ≤ b) →
  ((b = v ∧ m = 0 ∧ (i : Int) ≤ v) ∨ inR b = true ∧ b < (i : Int) ∧ nghB t v slot round b = true ∧ m = hsh 2 slot round b) →
  ∃ c, z1r v slot round b m (i : Int) t.Threshold t.Nodes t.Inner = some c ∧ Lead (nghB t v slot round) (hsh 2 slot round) c
 | 0, i, b, m, hi, hk, hb => by
  have hv' : 0 ≤ v ∧ v < 10 := by simpa [inR] using hv
  refine ⟨b, qrw _ _ _ _ _ _ _ _ _ _ (by rw [q00 (by omega)]; rfl), ?_⟩;rcases hb with ⟨_, _, h3⟩ | ⟨h1, h2, h3, h4⟩
  ·omega
  ·refine ⟨h1, h3, fun k hk1 hk2 => ?_⟩;have : 0 ≤ k ∧ k < 10 := by simpa [inR] using hk1
   have := hk k hk1 (by omega) hk2;rw [h4] at this; exact this
 | n + 1, i, b, m, hi, hk, hb => by
  have hv' : 0 ≤ v ∧ v < 10 := by simpa [inR] using hv
  have hin : inR (i : Int) = true := by simp [inR]; omega
  have next : ∀ b' m', (∀ k, inR k = true → k < ((i + 1 : Nat) : Int) → nghB t v slot round k = true → hsh 2 slot round k < m' ∨ hsh 2 slot round k = m' ∧ k ≤ b') → ((b' = v ∧ m' = 0 ∧ ((i + 1 : Nat) : Int) ≤ v) ∨ inR b' = true ∧ b' < ((i + 1 : Nat) : Int) ∧ nghB t v slot round b' = true ∧ m' = hsh 2 slot round b') →
    ∃ c, z1r v slot round b' m' ((i + 1 : Nat) : Int) t.Threshold t.Nodes t.Inner = some c ∧ Lead (nghB t v slot round) (hsh 2 slot round) c := fun b' m' => qk3 ht hv n (i + 1) b' m' (by omega)
  have split : ∀ k : Int, k < ((i + 1 : Nat) : Int) → k < (i : Int) ∨ k = (i : Int) := fun k hk => by omega
  have hbv : nghB t v slot round v = true := by simp [nghB]
  cases hN : nghB t v slot round (i : Int) with
  | false =>
   obtain ⟨c, h1, h2⟩ := next b m (fun k hk1 hk2 hk3 => by
    rcases split k hk2 with e | e
    ·exact hk k hk1 e hk3
    ·subst e; rw [hN] at hk3; cases hk3) (by
    rcases hb with ⟨e1, e2, e3⟩ | ⟨e1, e2, e3, e4⟩
    ·refine .inl ⟨e1, e2, ?_⟩;have : (i : Int) ≠ v := fun e => by rw [e, hbv] at hN; cases hN
     omega
    ·exact .inr ⟨e1, by omega, e3, e4⟩)
   refine ⟨c, qrw _ _ _ _ _ _ _ _ _ _ ?_, h2⟩;rw [q04 (by omega), cT, Trust.etaM, qph ht, bS, hN, q01 (by omega)];exact h1
  | true =>
   have hr := (qcn 2 slot round (i : Int)).1;by_cases hle : m ≤ hsh 2 slot round (i : Int)
   ·obtain ⟨c, h1, h2⟩ := next (i : Int) (hsh 2 slot round (i : Int)) (fun k hk1 hk2 hk3 => by
     rcases split k hk2 with e | e
     ·rcases hk k hk1 e hk3 with g | ⟨g, g'⟩
      ·exact .inl (by omega)
      ·by_cases e' : hsh 2 slot round k = hsh 2 slot round (i : Int)
       ·exact .inr ⟨e', by omega⟩
       ·exact .inl (by omega)
     ·subst e; exact .inr ⟨rfl, by omega⟩) (.inr ⟨hin, by omega, hN, rfl⟩)
    refine ⟨c, qrw _ _ _ _ _ _ _ _ _ _ ?_, h2⟩;rw [q04 (by omega), cT, Trust.etaM, qph ht, bS, hN, qfe, q01 (by omega)];simp only [nT, cF, bS, q0e hle, cT];exact h1
   ·obtain ⟨c, h1, h2⟩ := next b m (fun k hk1 hk2 hk3 => by
     rcases split k hk2 with e | e
     ·exact hk k hk1 e hk3
     ·subst e; exact .inl (by omega)) (by
     rcases hb with ⟨e1, e2, e3⟩ | ⟨e1, e2, e3, e4⟩
     ·omega
     ·exact .inr ⟨e1, by omega, e3, e4⟩)
    refine ⟨c, qrw _ _ _ _ _ _ _ _ _ _ ?_, h2⟩;rw [q04 (by omega), cT, Trust.etaM, qph ht, bS, hN, qfe, q01 (by omega)];simp only [nT, cF, bS, q09 (show hsh 2 slot round (i : Int) < m by omega)];exact h1
noncomputable def leadR (t : Trust) (v slot round : Int) : Int := (z44 t v slot round).getD 0
theorem q70 {t : Trust} (ht : valid t = true) {v : Int} (slot round : Int) (hv : inR v = true) : z44 t v slot round = some (leadR t v slot round) ∧ Lead (nghB t v slot round) (hsh 2 slot round) (leadR t v slot round) := by
 have hv' : 0 ≤ v ∧ v < 10 := by simpa [inR] using hv
 obtain ⟨c, h1, h2⟩ := qk3 (slot := slot) (round := round) ht hv 10 0 v 0 rfl (fun k hk hk0 => by
  have : 0 ≤ k ∧ k < 10 := by simpa [inR] using hk
  have : k < 0 := hk0;omega) (.inl ⟨rfl, rfl, hv'.1⟩)
 have h3 : z44 t v slot round = some c := y4f _ _ _ _ _ h1;rw [leadR, h3]; exact ⟨rfl, h2⟩
theorem qdp {t : Trust} {v slot round : Int} (h : AskOk t v slot round) : ∀ (n i : Nat) (b : Int), i + n = 10 → inR b = true → nghB t v slot round b = true → (∀ k, inR k = true → k < (i : Int) → nghB t v slot round k = true → hsh 2 slot round k < hsh 2 slot round b ∨ hsh 2 slot round k = hsh 2 slot round b ∧ k ≤ b) →
  ∃ c, z1h v slot round b (i : Int) t.Threshold t.Nodes t.Inner = some (c, 0) ∧ Lead (nghB t v slot round) (hsh 2 slot round) c
 | 0, i, b, hi, hb, hN, hk => by
  refine ⟨b, y0n _ _ _ _ _ _ _ _ _ (by rw [q00 (by omega)]; rfl), hb, hN, fun k hk1 hk2 => ?_⟩;have : 0 ≤ k ∧ k < 10 := by simpa [inR] using hk1
  exact hk k hk1 (by omega) hk2
 | n + 1, i, b, hi, hb, hNb, hk => by
  have hin : inR (i : Int) = true := by simp [inR]; omega
  have split : ∀ k : Int, k < ((i + 1 : Nat) : Int) → k < (i : Int) ∨ k = (i : Int) := fun k hk => by omega
  have stay := fun hkk => qdp h n (i + 1) b (by omega) hb hNb hkk
  have go := fun hN hkk => qdp h n (i + 1) (i : Int) (by omega) hin hN hkk
  have head : ∀ r, (bif (!nghB t v slot round (i : Int)) then z1h v slot round b (addI .i64 (i : Int) 1) t.Threshold t.Nodes t.Inner else Option.bind (some (hsh 2 slot round (i : Int))) fun x1 => Option.bind (some (hsh 2 slot round b)) fun x2 =>
    bif ltB x2 x1 then z1h v slot round (i : Int) (addI .i64 (i : Int) 1) t.Threshold t.Nodes t.Inner else bif eqB x1 x2 then (bif ltB b (i : Int) then z1h v slot round (i : Int) (addI .i64 (i : Int) 1) t.Threshold t.Nodes t.Inner else z1h v slot round b (addI .i64 (i : Int) 1) t.Threshold t.Nodes t.Inner) else z1h v slot round b (addI .i64 (i : Int) 1) t.Threshold t.Nodes t.Inner) = some r →
    z1h v slot round b (i : Int) t.Threshold t.Nodes t.Inner = some r := fun r hr => by
   apply y0n;rw [q04 (by omega), cT, Trust.etaM, y2x h hin, bS, qkc, qkc];exact hr
  rw [q01 (by omega)] at head;cases hN : nghB t v slot round (i : Int) with
  | false =>
   obtain ⟨c, h1, h2⟩ := stay fun k hk1 hk2 hk3 => by
    rcases split k hk2 with e | e
    ·exact hk k hk1 e hk3
    ·subst e; rw [hN] at hk3; cases hk3
   exact ⟨c, head _ (by rw [hN]; exact h1), h2⟩
  | true =>
   simp only [hN, nT, cF, bS] at head;by_cases h1 : hsh 2 slot round b < hsh 2 slot round (i : Int)
   ·obtain ⟨c, g1, g2⟩ := go hN fun k hk1 hk2 hk3 => by
     rcases split k hk2 with e | e
     ·rcases hk k hk1 e hk3 with g | ⟨g, g'⟩
      ·exact .inl (by omega)
      ·exact .inl (by omega)
     ·subst e; exact .inr ⟨rfl, by omega⟩
    exact ⟨c, head _ (by rw [q04 h1]; exact g1), g2⟩
   ·by_cases h2 : hsh 2 slot round (i : Int) = hsh 2 slot round b
    ·by_cases h3 : b < (i : Int)
     ·obtain ⟨c, g1, g2⟩ := go hN fun k hk1 hk2 hk3 => by
       rcases split k hk2 with e | e
       ·rcases hk k hk1 e hk3 with g | ⟨g, g'⟩
        ·exact .inl (by omega)
        ·exact .inr ⟨by omega, by omega⟩
       ·subst e; exact .inr ⟨rfl, by omega⟩
      exact ⟨c, head _ (by rw [q00 (by omega), cF, h2, q2f, cT, q04 h3]; exact g1), g2⟩
     ·obtain ⟨c, g1, g2⟩ := stay fun k hk1 hk2 hk3 => by
       rcases split k hk2 with e | e
       ·exact hk k hk1 e hk3
       ·subst e; exact .inr ⟨h2, by omega⟩
      exact ⟨c, head _ (by rw [q00 (by omega), cF, h2, q2f, cT, q00 (by omega)]; exact g1), g2⟩
    ·obtain ⟨c, g1, g2⟩ := stay fun k hk1 hk2 hk3 => by
      rcases split k hk2 with e | e
      ·exact hk k hk1 e hk3
      ·subst e; exact .inl (by omega)
     exact ⟨c, head _ (by rw [q00 (by omega), cF, q3p h2, cF]; exact g1), g2⟩
theorem qj8 {t : Trust} {v slot round : Int} (h : AskOk t v slot round) : z50 t v slot round = some (leadR t v slot round, 0) := by
 obtain ⟨c, h1, h2⟩ := qdp h 10 0 v rfl h.node (by simp [nghB]) (fun k hk hk0 => by
  have : 0 ≤ k ∧ k < 10 := by simpa [inR] using hk
  have : k < 0 := hk0;omega)
 apply y8h;rw [qya h, bS, q13, cF, ← h2.uniq (q70 h.tr slot round h.node).2];exact h1
noncomputable def leadF (t : Trust) (v slot : Int) : Nat → Nat → Nat → Nat
 | 0, _, s => s
 | n + 1, i, s => leadF t v slot n (i + 1) (s ||| bit (leadR t v slot ((i + 1 : Nat) : Int)))
noncomputable def leadS (t : Trust) (v slot rounds : Int) : Nat := leadF t v slot rounds.toNat 0 0
theorem qt1 {t : Trust} (ht : valid t = true) {v slot : Int} (hv : inR v = true) : ∀ (n i s : Nat), s < 1024 → leadF t v slot n i s < 1024
 | 0, _, _s, h => h
 | n + 1, i, _s, h => qt1 ht hv n (i + 1) _ (or_lt h (qa2 (q70 ht slot _ hv).2.node))
theorem qkn {t : Trust} (ht : valid t = true) {v : Int} (slot rounds : Int) (hv : inR v = true) : leadS t v slot rounds < 1024 := qt1 ht hv _ _ _ (by decide)
theorem qr7 {t : Trust} {v slot rounds : Int} (h : AskOk t v slot rounds) : ∀ (n i s : Nat), i + n = rounds.toNat → s < 1024 → z2w v slot (s : Int) rounds (i : Int) t.Threshold t.Nodes t.Inner = some (((leadF t v slot n i s : Nat) : Int), 0)
 | 0, i, s, hi, hs => by
  have := h.round;apply y1z;rw [q00 (by omega)]; rfl
 | n + 1, i, s, hi, hs => by
  have hr := h.round;have hc := q70 h.tr slot ((i + 1 : Nat) : Int) h.node;have hn := hc.2.node;have hn' : 0 ≤ leadR t v slot ((i + 1 : Nat) : Int) := (qcz hn).1;apply y1z;rw [q04 (by omega), cT, Trust.etaM, q01 (by omega), hc.1, bS, q1m hn', shlOr hs hn, qr7 h n (i + 1) _ (by omega) (or_lt hs (qa2 hn))];rfl
theorem qz7 {t : Trust} {v slot rounds : Int} (h : AskOk t v slot rounds) : z4s t v slot rounds = some (((leadS t v slot rounds : Nat) : Int), 0) := by
 apply y4e;rw [y3k h, bS, q13, cF];exact qr7 h rounds.toNat 0 0 (by omega) (by decide)
theorem qs2 {t : Trust} {v slot rounds : Int} (h : AskOk t v slot rounds) : ∀ (n i s : Nat), i + n = rounds.toNat → s < 1024 → z2y v slot rounds (s : Int) ((i + 1 : Nat) : Int) t.Threshold t.Nodes t.Inner = some (((leadF t v slot n i s : Nat) : Int), 0)
 | 0, i, s, hi, hs => by
  have := h.round;apply y1d;rw [q09 (by omega)]; rfl
 | n + 1, i, s, hi, hs => by
  have hr := h.round;have hc := qj8 (t := t) (v := v) (slot := slot) (round := ((i + 1 : Nat) : Int)) ⟨h.tr, h.node, h.slot, by omega, by omega⟩;have hn := (q70 h.tr slot ((i + 1 : Nat) : Int) h.node).2.node;have hn' : 0 ≤ leadR t v slot ((i + 1 : Nat) : Int) := (qcz hn).1;apply y1d;rw [q0e (by omega), cT, Trust.etaM, hc, bS, q31 hs, bS];have ih := qs2 h n (i + 1);cases hh : has s (leadR t v slot ((i + 1 : Nat) : Int)) with
  | true =>
   rw [nT, cF, q01 (by omega), ih s (by omega) hs];have hsb : s ||| bit (leadR t v slot ((i + 1 : Nat) : Int)) = s := by
    apply Nat.eq_of_testBit_eq;intro j;rw [Nat.testBit_or, bit, qha];by_cases e : (leadR t v slot ((i + 1 : Nat) : Int)).toNat = j
    ·have : s.testBit j = true := by
      rw [← e];obtain ⟨q, hq, _, hq2⟩ := quw hh;rw [hq, tN]; exact hq2
     simp [this]
    ·rw [decide_eq_false e, Bool.or_false]
   show _ = some (((leadF t v slot n (i + 1) (s ||| bit _) : Nat) : Int), (0 : Int));rw [hsb]
  | false =>
   rw [Bool.not_false, cT, q1m hn', shlOr hs hn, q01 (by omega), ih _ (by omega) (or_lt hs (qa2 hn))];rfl
theorem y03 {t : Trust} {v slot rounds : Int} (h : AskOk t v slot rounds) : z5b t v slot rounds = some (((leadS t v slot rounds : Nat) : Int), 0) := by
 apply y7f;rw [qj8 h, bS, q13, cF];exact qs2 h rounds.toNat 0 0 (by omega) (by decide)
noncomputable def leadL (t : Trust) (v slot rounds : Int) : List Int := (nodes (leadS t v slot rounds)).map Int.ofNat
theorem qle (k : Int) : z3m k = some (inR k) := by
 apply y6k;by_cases h : 0 ≤ k
 ·simp [leB, ltB, inR, h]
 ·simp [leB, ltB, inR, h]
theorem qqp {m : Nomination} (h : SmallN m) : z40 m = some (nomB m) := by
 apply y6u;rw [qle, q7r _ h.tr, qc0 _ (by have := h.votes; omega), qc0 _ (by have := h.accs; omega)];simp only [bS, qbb, nomB, leB];cases inR m.Node <;> cases decide (1 ≤ m.Seq) <;> cases valid m.Trust <;> cases q0v m.Votes <;> rfl
theorem qnw (m : Nomination) : Nomination.mk m.Node m.Seq (Trust.mk m.Trust.Threshold m.Trust.Nodes m.Trust.Inner) m.Votes m.Accepts = m := by rw [Trust.etaM]
theorem q4h (n : Nominator) : Nominator.mk n.Node n.Slot n.Round n.Seq (Trust.mk n.Trust.Threshold n.Trust.Nodes n.Trust.Inner) n.Own n.Votes n.Accepts n.Candidates n.Heard = n := by rw [Trust.etaM]
theorem qrb (l : List Val) (n : Nominator) (hl : l.length < 1152921504606846976) (ha : n.Accepts.length < 1000000) : ∀ (suf : List Val) (i : Nat), l.drop i = suf → ∃ r : Int, z0g l ((l.length : Nat) : Int) (i : Int) n.Node n.Slot n.Round n.Seq n.Trust.Threshold n.Trust.Nodes n.Trust.Inner n.Own n.Votes n.Accepts n.Candidates n.Heard = some (r, n.Node, n.Slot, n.Round, n.Seq, n.Trust.Threshold, n.Trust.Nodes, n.Trust.Inner, n.Own, n.Votes, n.Accepts, n.Candidates, n.Heard) ∧ leB 0 r = !(suf.all fun x => decide (x ∈ n.Accepts))
 | [], i, h => by
  refine ⟨-1, qwp _ _ _ _ _ _ _ _ _ _ _ _ _ _ _ _ ?_, by simp [leB]⟩;rw [q0k h]; rfl
 | y :: suf, i, h => by
  have hlt := q0h h;obtain ⟨r, h1, h2⟩ := qrb l n hl ha suf (i + 1) (q03 h);have hf : z4a y n.Node n.Slot n.Round n.Seq n.Trust.Threshold n.Trust.Nodes n.Trust.Inner n.Own n.Votes n.Accepts n.Candidates n.Heard = some (!decide (y ∈ n.Accepts), n.Node, n.Slot, n.Round, n.Seq, n.Trust.Threshold, n.Trust.Nodes, n.Trust.Inner, n.Own, n.Votes, n.Accepts, n.Candidates, n.Heard) := by
   apply y8a;rw [qfh _ (by omega)]; rfl
  by_cases hy : y ∈ n.Accepts
  ·refine ⟨r, qwp _ _ _ _ _ _ _ _ _ _ _ _ _ _ _ _ ?_, by rw [h2]; simp [hy]⟩;rw [q07 h, cT, q06 h, hf, bS, q01 (by omega)];simp only [hy, decide_true, nT, cF];exact h1
  ·refine ⟨i, qwp _ _ _ _ _ _ _ _ _ _ _ _ _ _ _ _ ?_, by simp [hy, leB]⟩;rw [q07 h, cT, q06 h, hf, bS];simp only [hy, decide_false, Bool.not_false, cT]
theorem qw8 (n : Nominator) (hl : n.Heard.length < 1000000) (hm : ∀ m ∈ n.Heard, SmallN m) : ∀ (suf : List Nomination) (i : Nat) (z : Nomination), n.Heard[i]? = some z → n.Heard.drop (i + 1) = suf →
  z1q n.Heard ((n.Heard.length : Nat) : Int) ((i + 1 : Nat) : Int) n.Node n.Slot n.Round n.Seq n.Trust.Threshold n.Trust.Nodes n.Trust.Inner n.Own n.Votes n.Accepts n.Candidates n.Heard = some (q3k n.Node (some z.Node) suf)
 | [], i, z, hz, h => by
  apply qs0;rw [q0k h]; rfl
 | y :: suf, i, z, hz, h => by
  have hlt := q0h h;apply qs0;rw [q07 h, cT, q06 h, qqp (hm y (List.mem_of_mem_drop (i := i + 1) (by rw [h]; simp))), bS, q04 (by omega), cT, q3e (by omega) (by omega), q15 (y := z) (by omega) (by rw [show (((i + 1 : Nat) : Int) - 1).toNat = i by omega]; exact hz), q01 (by omega),
   qw8 n hl hm suf (i + 1) y (by have := congrArg (·[0]?) h; simpa using this) (q03 h)]
  rw [q3k, show leB y.Node z.Node = !decide (z.Node < y.Node) by by_cases h2 : z.Node < y.Node <;> simp [leB, h2] <;> omega];simp only [eqB];cases nomB y <;> cases decide (y.Node = n.Node) <;> cases decide (z.Node < y.Node) <;> rfl
theorem y3i (n : Nominator) (hl : n.Heard.length < 1000000) (hm : ∀ m ∈ n.Heard, SmallN m) : z1q n.Heard ((n.Heard.length : Nat) : Int) 0 n.Node n.Slot n.Round n.Seq n.Trust.Threshold n.Trust.Nodes n.Trust.Inner n.Own n.Votes n.Accepts n.Candidates n.Heard = some (q3k n.Node none n.Heard) := by
 cases hh : n.Heard with
 | nil =>
  apply qs0;simp [ltB, q3k]
 | cons y r =>
  have h1 := qw8 n hl hm r 0 y (by rw [hh]; rfl) (by rw [hh]; rfl);rw [hh] at h1 hm;apply qs0;rw [q04 (by rw [List.length_cons]; omega), cT, q15 (y := y) (by omega) rfl, qqp (hm y (by simp)), bS, q00 (by omega), cF, show addI .i64 0 1 = ((0 + 1 : Nat) : Int) from rfl, h1, q3k];by_cases h1 : y.Node = n.Node
  all_goals cases nomB y <;> simp [h1, eqB]
theorem y09 (n : Nominator) : z48 n = some (numsN n) := by
 apply y7n;rw [qle, bS];unfold numsN leB;cases inR n.Node <;> cases decide (0 ≤ n.Slot) <;> cases decide (n.Slot ≤ 1000000) <;> cases decide (1 ≤ n.Round) <;> cases decide (n.Round ≤ 1000) <;> cases decide (1 ≤ n.Seq) <;> rfl
theorem qdf {n : Nominator} (h : SmallR n) : z3b n = some (q6p n) := by
 obtain ⟨h1, h2, h3, h4, h5, h6, h7⟩ := h;apply y4j;obtain ⟨r, g1, g2⟩ := qrb n.Candidates n (by omega) h4 n.Candidates 0 rfl;have g3 : z1d n.Candidates n.Node n.Slot n.Round n.Seq n.Trust.Threshold n.Trust.Nodes n.Trust.Inner n.Own n.Votes n.Accepts n.Candidates n.Heard = _ := y4c _ _ _ _ _ _ _ _ _ _ _ _ _ _ g1;have g4 : z19 n.Candidates n.Node n.Slot n.Round n.Seq n.Trust.Threshold n.Trust.Nodes n.Trust.Inner n.Own n.Votes n.Accepts n.Candidates n.Heard = some (!(n.Candidates.all fun x => decide (x ∈ n.Accepts)), n.Node, n.Slot, n.Round, n.Seq, n.Trust.Threshold, n.Trust.Nodes, n.Trust.Inner, n.Own, n.Votes, n.Accepts, n.Candidates, n.Heard) := by
  apply y5g;rw [g3, bS, g2]
 rw [y09, q7r _ h1, qc0 _ (by omega), qc0 _ (by omega), qc0 _ (by omega), g4];simp only [bS, y3i n h6 h7, qxm];have ho : ltB 200 ((n.Own.length : Nat) : Int) = !decide (n.Own.length ≤ 200) := by
  unfold ltB; rw [Bool.eq_iff_iff]; simp; omega
 rw [ho];unfold q6p;cases numsN n <;> cases valid n.Trust <;> cases decide (n.Own.length ≤ 200) <;> cases q0v n.Votes <;> cases q0v n.Accepts <;> cases q0v n.Candidates <;> cases n.Candidates.all (fun x => decide (x ∈ n.Accepts)) <;> rfl
theorem qs7 (n : Nominator) : z4l n = some (sayN n) := y6h _ _ (by rw [Trust.etaM]; rfl)
theorem qnj : ∀ t : Trust, Fits t → z3a t = some t := by
 apply Trust.ind;intro t ih ht;have hsz : size t < 1073741824 := ht;rw [q33] at hsz;have l1 : ∀ (suf : List Trust) (i : Nat) (acc : List Trust) (a8 : Int) (a10 : List Int) (a12 : List Trust) (a14 : Int) (a16 : List Int) (a18 : List Trust) (a20 : Int) (a22 : List Int), t.Inner.drop i = suf → acc.length ≤ i →
   z2l t.Inner ((t.Inner.length : Nat) : Int) (i : Int) a8 a10 a12 a14 a16 a18 a20 a22 acc = some ⟨a20, a22, acc ++ suf⟩ := by
  intro suf;induction suf with
  | nil =>
   intro i acc a8 a10 a12 a14 a16 a18 a20 a22 h ha;apply y1o;simp only [q0k h, cF, List.append_nil]
  | cons y suf ihs =>
   intro i acc a8 a10 a12 a14 a16 a18 a20 a22 h ha;have hlt := q0h h;have hy : y ∈ t.Inner := List.mem_of_mem_drop (by rw [h]; exact List.mem_cons_self);apply y1o;simp only [q07 h, cT, q06 h, ih y hy (ht.mem hy), bS, q01 (show i < 4611686018427387904 by omega), Trust.etaM];rw [q0o (by simp [q0f]; omega), ihs (i + 1) (acc ++ [y]) _ _ _ _ _ _ _ _ (q03 h) (by simp; omega)];simp
 apply y7h;have h1 : z32 t.Nodes = some ((), t.Nodes) := y6m _ _ (by rw [q0o (by simp [q0f]; omega)]; rfl);rw [h1, bS, show (0 : Int) = ((0 : Nat) : Int) from rfl, l1 t.Inner 0 [] _ _ _ _ _ _ _ _ rfl (Nat.le_refl _)];show some (Trust.mk t.Threshold t.Nodes t.Inner) = some t;rw [Trust.etaM]
theorem qpz {m : Nomination} (ht : Fits m.Trust) (h1 : m.Votes.length < 1000000) (h2 : m.Accepts.length < 1000000) : z2e m = some m := by
 apply y6w;rw [qnj _ ht, bS, q74 _ h1, bS, q74 _ h2, bS, Trust.etaM]
theorem qmu (l : List Nomination) (hl : l.length < 1000000) (hm : ∀ m ∈ l, z2e m = some m) (n sl r s : Int) (t : Int) (ns : List Int) (is : List Trust) (ow : Val) (va aa ca : List Val) (d1 d2 d3 d4 d5 : Int) (d6 : List Int) (d7 : List Trust) (d8 : Val) (d9 d10 d11 : List Val) (d12 : List Nomination) : ∀ (suf : List Nomination) (i : Nat) (acc : List Nomination), l.drop i = suf → acc.length ≤ i →
  z2j l ((l.length : Nat) : Int) (i : Int) n sl r s t ns is ow va aa ca acc d1 d2 d3 d4 d5 d6 d7 d8 d9 d10 d11 d12 = some ⟨n, sl, r, s, ⟨t, ns, is⟩, ow, va, aa, ca, acc ++ suf⟩
 | [], i, acc, h, ha => by
  apply y25;rw [q0k h, cF, List.append_nil]
 | m :: suf, i, acc, h, ha => by
  have hlt := q0h h;apply y25;rw [q07 h, cT, q06 h, hm m (List.mem_of_mem_drop (i := i) (by rw [h]; simp)), bS, qnw, q0o (by simp [q0f]; omega), q01 (by omega), qmu l hl hm n sl r s t ns is ow va aa ca d1 d2 d3 d4 d5 d6 d7 d8 d9 d10 d11 d12 suf (i + 1) _ (q03 h) (by simp; omega)];simp
structure FreshN (n : Nominator) : Prop where
 tr : Fits n.Trust
 votes : n.Votes.length < 1000000
 accs : n.Accepts.length < 1000000
 cands : n.Candidates.length < 1000000
 heard : n.Heard.length < 1000000
 msgs : ∀ m ∈ n.Heard, z2e m = some m
theorem qbl {n : Nominator} (h : FreshN n) : z1m n = some n := by
 apply y4n;rw [qnj _ h.tr, bS, q74 _ h.votes, bS, q74 _ h.accs, bS, q74 _ h.cands, bS];have := qmu n.Heard h.heard h.msgs n.Node n.Slot n.Round n.Seq n.Trust.Threshold n.Trust.Nodes n.Trust.Inner n.Own n.Votes n.Accepts n.Candidates 0 0 0 0 0 [] [] [] [] [] [] [] n.Heard 0 [] rfl (Nat.le_refl _);refine Eq.trans this ?_;rw [Trust.etaM]; rfl
theorem qz0 {m : Nomination} (h : nomB m = true) : z2e m = some m :=
 qpz (q57 (q1v.1 h).2.2.1).1 (q55 h).votes (q55 h).accs
theorem ReadyN.fresh {n : Nominator} (h : ReadyN n) (s : Int) : FreshN { n with Seq := s } :=
 ⟨(q57 h.tr).1, by have := h.vlen; show n.Votes.length < _; omega, by have := h.alen; show n.Accepts.length < _; omega, by have := h.clen; show n.Candidates.length < _; omega, by have := h.hlen; show n.Heard.length < _; omega, fun m hm => qz0 (h.msg m hm).1⟩
theorem qoi {n : Nominator} (h : ReadyN n) (a34 : List Member) : ∀ (suf : List Nomination) (i : Nat) (acc : List Message), n.Heard.drop i = suf → acc = (n.Heard.take i).map msgOf →
  z2v acc n.Heard ((n.Heard.length : Nat) : Int) (i : Int) n.Node n.Slot n.Round n.Seq n.Trust.Threshold n.Trust.Nodes n.Trust.Inner n.Own n.Votes n.Accepts n.Candidates n.Heard a34 = some (viewN n)
 | [], i, acc, g, ha => by
  have hh := h.hlen;have hi : n.Heard.take i = n.Heard := List.take_of_length_le (List.drop_eq_nil_iff.1 g);rw [hi] at ha;apply y1a;rw [q0k g, cF, Trust.etaM, ha, qyi h.node h.tr _ (by simp; omega) h.msgs];rfl
 | m :: suf, i, acc, g, ha => by
  have hlt := q0h g;have hh := h.hlen;apply y1a;rw [q07 g, cT, q06 g, Trust.etaM, q0o (by rw [ha]; simp [q0f]; omega), q01 (by omega)];refine qoi h a34 suf (i + 1) _ (q03 g) ?_;rw [ha, List.take_add_one];have : n.Heard[i]? = some m := by have := congrArg (·[0]?) g; simpa using this
  simp [this, msgOf]
theorem qm8 {n : Nominator} (h : ReadyN n) : z4d n = some (viewN n) := y7v _ _ (qoi h [] n.Heard 0 [] rfl rfl)
theorem q5j (l : List Nomination) (hl : l.length < 1000000) (hm : ∀ m ∈ l, nomB m = true) (x : Val) : ∀ (suf : List Nomination) (i s t : Nat), l.drop i = suf → s < 1024 → t < 1024 →
  z1s x (s : Int) (t : Int) l ((l.length : Nat) : Int) (i : Int) = some (((whoN (fun m => decide (x ∈ m.Votes)) s suf : Nat) : Int), ((whoN (fun m => decide (x ∈ m.Accepts)) t suf : Nat) : Int))
 | [], i, s, t, h, _, _ => by
  apply y0m;rw [q0k h]; rfl
 | m :: suf, i, s, t, h, hs, ht => by
  have hlt := q0h h;have hb := hm m (List.mem_of_mem_drop (i := i) (by rw [h]; simp));have hsm := q55 hb;have hn := (q1v.1 hb).1;have h0 := (qcz hn).1;apply y0m;rw [q07 h, cT, q06 h, qfh _ (by have := hsm.votes; omega), bS, qfh _ (by have := hsm.accs; omega), bS, q01 (by omega), qid, qid];have hs' := or_lt hs (qa2 hn);have ht' := or_lt ht (qa2 hn);rw [shlOr hs hn, shlOr ht hn];by_cases h1 : x ∈ m.Votes <;> by_cases h2 : x ∈ m.Accepts
  ·simp only [h1, h2, decide_true, cT, if_true];rw [q1m h0, q1m h0]; exact q5j l hl hm x suf (i + 1) _ _ (q03 h) hs' ht'
  ·simp only [h1, h2, decide_true, decide_false, cT, cF, if_true, fT, if_false];rw [q1m h0]; exact q5j l hl hm x suf (i + 1) _ _ (q03 h) hs' ht
  ·simp only [h1, h2, decide_true, decide_false, cT, cF, if_true, fT, if_false];rw [q1m h0]; exact q5j l hl hm x suf (i + 1) _ _ (q03 h) hs ht'
  ·simp only [h1, h2, decide_false, cF, fT, if_false];exact q5j l hl hm x suf (i + 1) _ _ (q03 h) hs ht
theorem qhp {l : List Nomination} (hl : l.length < 1000000) (hm : ∀ m ∈ l, nomB m = true) (x : Val) : z3t l x = some (((q98 l x : Nat) : Int), ((accsN l x : Nat) : Int)) :=
 y53 _ _ _ (q5j l hl hm x l 0 0 0 rfl (by decide) (by decide))
def nextR : Option Val → Val × Bool
 | some x => (x, true)
 | none => ([], false)
theorem qsw (l : List Val) : (setV l).length ≤ l.length := q7y (qji qfv) fun _x hx => q39.1 hx
theorem qk7 : ∀ (l : List Nomination), (∀ m ∈ l, nomB m = true) → (q3s l).length ≤ 80 * l.length
 | [], _ => by simp [q3s]
 | m :: l, h => by
  have ih := qk7 l fun k hk => h k (by simp [hk])
  obtain ⟨_, _, _, h1, h2⟩ := q1v.1 (h m (by simp));have h1 := (q0g.1 h1).2.2;have h2 := (q0g.1 h2).2.2;have : q3s (m :: l) = (m.Votes ++ m.Accepts) ++ q3s l := by simp [q3s]
  rw [this]; simp; omega
theorem qm5 {n : Nominator} (h : ReadyN n) (l : List Val) (hl : l.length < 1000000) : ∀ (suf : List Val) (i : Nat), l.drop i = suf →
  z26 (allN n) l ((l.length : Nat) : Int) (i : Int) n.Node n.Slot n.Round n.Seq n.Trust.Threshold n.Trust.Nodes n.Trust.Inner n.Own n.Votes n.Accepts n.Candidates n.Heard (viewN n).Members = some (nextR (suf.find? (canN n)))
 | [], i, g => by
  apply y1p;rw [q0k g]; rfl
 | y :: suf, i, g => by
  have hlt := q0h g;have hlen := h.len;have halen := h.alen;have ih := qm5 h l hl suf (i + 1) (q03 g);obtain ⟨n1, n2⟩ := h.node';have hacc : z3u ⟨(viewN n).Members⟩ n.Node ((q98 (allN n) y : Nat) : Int) ((accsN (allN n) y : Nat) : Int) = some (accB (viewN n) n.Node.toNat (q98 (allN n) y) (accsN (allN n) y)) := by
   have := qzp h.view (qvl h.all y) (qr6 h.all y) n1;rw [n2] at this; exact this
  apply y1p;rw [q07 g, cT, q06 g, qhp (by omega) h.all, bS, qfh _ (by omega), bS, hacc, bS, q01 (by omega), ih, List.find?_cons];have h40 : ltB ((n.Accepts.length : Nat) : Int) 40 = decide (n.Accepts.length < 40) := by
   unfold ltB;by_cases e : n.Accepts.length < 40
   ·have : ((n.Accepts.length : Nat) : Int) < 40 := by omega
    simp [e, this]
   ·have : ¬ ((n.Accepts.length : Nat) : Int) < 40 := by omega
    simp [e, this]
  rw [h40];simp only [canN];cases decide (y ∈ n.Accepts) <;> cases decide (n.Accepts.length < 40) <;> cases accB (viewN n) n.Node.toNat (q98 (allN n) y) (accsN (allN n) y) <;> rfl
theorem qig {n : Nominator} (h : ReadyN n) : z38 n (viewN n) = some (nextR (nextN n)) := by
 apply y65;have hh := h.hlen;have hlen := h.len;rw [qgs _ (by omega), bS, qs7, bS, qnw, q0o (by simp [q0f]; omega)];have : z3z (n.Heard ++ [sayN n]) = _ := qsp hlen h.all;rw [this, bS];have h1 := qsw (q3s (allN n));have h2 := qk7 _ h.all;exact qm5 h (qi8 n) (by show (setV (q3s (allN n))).length < _; omega) (qi8 n) 0 rfl
theorem vals1 (m : Nomination) : q3s [m] = m.Votes ++ m.Accepts := by simp [q3s]
theorem qxo {n : Nominator} (h : ReadyN n) (L : List Int) (r : List Val) (u k : Nat) (m : Nomination) (a3 : Int) (l : List Val) (hl : l.length < 1000000) (hv : ∀ x ∈ l, vvl x = true) (hk : k < n.Heard.length) : ∀ (suf : List Val) (i : Nat) (V : List Val), l.drop i = suf → q0v V = true →
  z22 (q6s V suf) a3 L ((L.length : Nat) : Int) (u : Int) n.Heard ((n.Heard.length : Nat) : Int) ((k + 1 : Nat) : Int) n.Node n.Slot n.Round n.Seq n.Trust.Threshold n.Trust.Nodes n.Trust.Inner n.Own n.Votes n.Accepts n.Candidates n.Heard = some r →
  z2m V a3 L ((L.length : Nat) : Int) (u : Int) n.Heard ((n.Heard.length : Nat) : Int) (k : Int) l ((l.length : Nat) : Int) (i : Int) n.Node n.Slot n.Round n.Seq n.Trust.Threshold n.Trust.Nodes n.Trust.Inner n.Own n.Votes n.Accepts n.Candidates n.Heard m.Node m.Seq m.Trust.Threshold m.Trust.Nodes m.Trust.Inner m.Votes m.Accepts = some r
 | [], i, V, g, hV, hr => by
  have hh := h.hlen;apply y1r;rw [q0k g, cF, q01 (by omega)]; exact hr
 | y :: suf, i, V, g, hV, hr => by
  have hlt := q0h g;apply y1r;rw [q07 g, cT, q06 g, qfq hV, bS, q01 (by omega)];exact qxo h L r u k m a3 l hl hv hk suf (i + 1) _ (q03 g) (q3j hV (hv y (List.mem_of_mem_drop (i := i) (by rw [g]; simp)))) hr
def foldH (u : Int) (V : List Val) (l : List Nomination) : List Val := l.foldl (fun V m => if m.Node = u then q6s V (setV (m.Votes ++ m.Accepts)) else V) V
theorem qq7 {n : Nominator} (h : ReadyN n) (L : List Int) (hL : L.length < 1000000) (r : List Val) (u : Nat) (hu : u < L.length) (a3 : Int) : ∀ (suf : List Nomination) (k : Nat) (V : List Val), n.Heard.drop k = suf → q0v V = true →
  z1u (foldH a3 V suf) L ((L.length : Nat) : Int) ((u + 1 : Nat) : Int) n.Node n.Slot n.Round n.Seq n.Trust.Threshold n.Trust.Nodes n.Trust.Inner n.Own n.Votes n.Accepts n.Candidates n.Heard = some r →
  z22 V a3 L ((L.length : Nat) : Int) (u : Int) n.Heard ((n.Heard.length : Nat) : Int) (k : Int) n.Node n.Slot n.Round n.Seq n.Trust.Threshold n.Trust.Nodes n.Trust.Inner n.Own n.Votes n.Accepts n.Candidates n.Heard = some r
 | [], k, V, g, hV, hr => by
  apply y2g;rw [q0k g, cF, q01 (by omega)]; exact hr
 | m :: suf, k, V, g, hV, hr => by
  have hlt := q0h g;have hh := h.hlen;have hm := (h.msg m (List.mem_of_mem_drop (i := k) (by rw [g]; simp))).1;apply y2g;rw [q07 g, cT, q06 g, qnw];by_cases e : m.Node = a3
  ·rw [e, q13, cF, qsp (l := [m]) (by simp) (by simpa using hm), bS, vals1];have hs : ∀ x ∈ setV (m.Votes ++ m.Accepts), vvl x = true := fun x hx => qfk hm x (q39.1 hx)
   have hl2 := qsw (m.Votes ++ m.Accepts);have hsm := q55 hm;have h1 := hsm.votes;have h2 := hsm.accs;obtain ⟨_, _, _, q1, q2⟩ := q1v.1 hm;have q1 := (q0g.1 q1).2.2;have q2 := (q0g.1 q2).2.2;have h3 : (setV (m.Votes ++ m.Accepts)).length < 1000000 := by simp at hl2; omega
   have := qxo h L r u k m a3 _ h3 hs hlt _ 0 V rfl hV (qq7 h L hL r u hu a3 suf (k + 1) _ (q03 g) (q63 hV hs) (by
    have e2 : foldH a3 V (m :: suf) = foldH a3 (q6s V (setV (m.Votes ++ m.Accepts))) suf := by show foldH a3 (if m.Node = a3 then _ else _) suf = _; rw [if_pos e]
    rw [e2] at hr; exact hr))
   rw [e] at this;exact this
  ·rw [q3o e, cT, q01 (by omega)];refine qq7 h L hL r u hu a3 suf (k + 1) _ (q03 g) hV ?_;have e2 : foldH a3 V (m :: suf) = foldH a3 V suf := by show foldH a3 (if m.Node = a3 then _ else _) suf = _; rw [if_neg e]
   rw [e2] at hr; exact hr
theorem qxu {n : Nominator} (h : ReadyN n) (L : List Int) (hL : L.length < 1000000) : ∀ (suf : List Int) (u : Nat) (V : List Val), L.drop u = suf → q0v V = true →
  z1u V L ((L.length : Nat) : Int) (u : Int) n.Node n.Slot n.Round n.Seq n.Trust.Threshold n.Trust.Nodes n.Trust.Inner n.Own n.Votes n.Accepts n.Candidates n.Heard = some (suf.foldl (leadV n) V)
 | [], u, V, g, hV => by
  apply y1j;rw [q0k g]; rfl
 | y :: suf, u, V, g, hV => by
  have hlt := q0h g;have hV' := qak h (u := y) hV;have ih := qxu h L hL suf (u + 1) (leadV n V y) (q03 g) hV';apply y1j;rw [q07 g, cT, q06 g, List.foldl_cons];by_cases e : y = n.Node
  ·rw [e, q2f, cT];rw [e] at ih;unfold leadV at ih ⊢;simp only [if_true] at ih ⊢;by_cases ho : n.Own = []
   ·rw [if_pos ho] at ih ⊢;rw [show eqS n.Own [] = true by simp [eqS, ho], nT, cF, q01 (by omega)]; exact ih
   ·rw [if_neg ho] at ih ⊢;rw [show eqS n.Own [] = false by simp [eqS, ho], Bool.not_false, cT, qfq hV, bS, q01 (by omega)]; exact ih
  ·rw [q3p e, cF];refine qq7 h L hL _ u hlt y n.Heard 0 V rfl hV ?_;have e2 : foldH y V n.Heard = leadV n V y := by unfold leadV foldH; rw [if_neg e]
   rw [e2]; exact ih
theorem ReadyN.ask {n : Nominator} (h : ReadyN n) : AskOk n.Trust n.Node n.Slot n.Round := ⟨h.tr, h.node, h.slot, h.round⟩
noncomputable def leadN (n : Nominator) : List Int := leadL n.Trust n.Node n.Slot n.Round
theorem qwx {n : Nominator} (_h : ReadyN n) : (leadN n).length < 1000000 := by
 have := qnu (leadS n.Trust n.Node n.Slot n.Round);simp [leadN, leadL]; omega
theorem qv7 {n : Nominator} (h : ReadyN n) : z4p n = some (qhm (leadN n) n) := by
 apply y4w;rw [qz7 h.ask, bS, qmb (qkn h.tr n.Slot n.Round h.node), bS];exact qxu h (leadN n) (qwx h) (leadN n) 0 n.Votes rfl h.votes
theorem ql1 {n : Nominator} (h : ReadyN n) (l : List Val) (hl : l.length ≤ 40) (hv : ∀ x ∈ l, vvl x = true) (d1 d2 d3 d4 d5 : Int) (d6 : List Int) (d7 : List Trust) (d8 : Val) (d9 d10 d11 : List Val) (d12 : List Nomination) : ∀ (suf : List Val) (i : Nat) (C : List Val), l.drop i = suf → q0v C = true →
  z23 (allN n) l ((l.length : Nat) : Int) (i : Int) n.Node n.Slot n.Round n.Seq n.Trust.Threshold n.Trust.Nodes n.Trust.Inner n.Own n.Votes n.Accepts C n.Heard d1 d2 d3 d4 d5 d6 d7 d8 d9 d10 d11 d12 (viewN n).Members = some { n with Candidates := candN n C suf }
 | [], i, C, g, hC => by
  apply y23;rw [q0k g, cF, Trust.etaM]; rfl
 | y :: suf, i, C, g, hC => by
  have hlt := q0h g;have hlen := h.len;have hy := hv y (List.mem_of_mem_drop (i := i) (by rw [g]; simp));obtain ⟨n1, n2⟩ := h.node';have hacc : z3h ⟨(viewN n).Members⟩ n.Node ((accsN (allN n) y : Nat) : Int) = some (confB (viewN n) n.Node.toNat (accsN (allN n) y)) := by
   have := y08 h.view (qr6 h.all y) n1;rw [n2] at this; exact this
  apply y23;rw [q07 g, cT, q06 g, qhp (by omega) h.all, bS, hacc, bS, qfq hC, bS, q01 (by omega)];show _ = some { n with Candidates := candN n (if confB (viewN n) n.Node.toNat (accsN (allN n) y) then putV C y else C) suf };cases hc : confB (viewN n) n.Node.toNat (accsN (allN n) y) with
  | true =>
   rw [cT, if_pos rfl];exact ql1 h l hl hv d1 d2 d3 d4 d5 d6 d7 d8 d9 d10 d11 d12 suf (i + 1) _ (q03 g) (q3j hC hy)
  | false =>
   rw [cF, if_neg (by simp)];exact ql1 h l hl hv d1 d2 d3 d4 d5 d6 d7 d8 d9 d10 d11 d12 suf (i + 1) _ (q03 g) hC
theorem qrq (d1 d2 d3 d4 d5 : Int) (d6 : List Int) (d7 : List Trust) (d8 : Val) (d9 d10 d11 : List Val) (d12 : List Nomination) : ∀ (k : Nat) (n : Nominator), ReadyN n → 40 - n.Accepts.length < k →
  z2a (nextR (nextN n)).1 (nextR (nextN n)).2 n.Node n.Slot n.Round n.Seq n.Trust.Threshold n.Trust.Nodes n.Trust.Inner n.Own n.Votes n.Accepts n.Candidates n.Heard d1 d2 d3 d4 d5 d6 d7 d8 d9 d10 d11 d12 (viewN n).Members = some (qgj (q3g k n))
 | 0, n, h, hk => by omega
 | k + 1, n, h, hk => by
  rw [q3g];apply y7e;cases hx : nextN n with
  | none =>
   have hh := h.hlen;simp only [nextR, cF];rw [qgs _ (by omega), bS, q4h, qs7, bS, qnw, q0o (by simp [q0f]; omega)];exact ql1 h n.Accepts h.alen h.avv d1 d2 d3 d4 d5 d6 d7 d8 d9 d10 d11 d12 n.Accepts 0 n.Candidates rfl h.cands
  | some x =>
   obtain ⟨h1, h2, h3, _⟩ := qdh hx;have hv := qnk h h1;have hr := h.withA hv;have hl := qrz h3 h2;simp only [nextR, cT];rw [qfq h.accs, bS];have hw : Nominator.mk n.Node n.Slot n.Round n.Seq (Trust.mk n.Trust.Threshold n.Trust.Nodes n.Trust.Inner) n.Own n.Votes (putV n.Accepts x) n.Candidates n.Heard = qeq n x := by rw [Trust.etaM]; rfl
   rw [hw];have hn' : z38 (qeq n x) ⟨(viewN n).Members⟩ = _ := qig hr;rw [hn', bS];exact qrq d1 d2 d3 d4 d5 d6 d7 d8 d9 d10 d11 d12 k (qeq n x) hr (by show 40 - (putV n.Accepts x).length < k; omega)
theorem qsn {n : Nominator} (h : ReadyN n) : z2q n = some (q0x (leadN n) n) := by
 apply y5i;have hl := h.listen (leadN n);have go := fun d1 d2 d3 d4 d5 d6 d7 d8 d9 d10 d11 d12 => qrq d1 d2 d3 d4 d5 d6 d7 d8 d9 d10 d11 d12 60 _ hl (by omega)
 unfold q0x;by_cases e : n.Candidates = []
 ·have e0 : eqB ((n.Candidates.length : Nat) : Int) 0 = true := by simp [eqB, e]
  rw [e0, cT, qv7 h, bS];have hw : q16 (leadN n) n = { n with Votes := qhm (leadN n) n } := by rw [q16, if_pos e]
  have hm : Nominator.mk n.Node n.Slot n.Round n.Seq (Trust.mk n.Trust.Threshold n.Trust.Nodes n.Trust.Inner) n.Own (qhm (leadN n) n) n.Accepts n.Candidates n.Heard = { n with Votes := qhm (leadN n) n } := by rw [Trust.etaM]
  rw [hw] at go hl ⊢;rw [hm, qm8 hl, bS, qig hl, bS];exact go 0 0 0 0 0 [] [] [] [] [] [] []
 ·have e0 : eqB ((n.Candidates.length : Nat) : Int) 0 = false := by
   have : n.Candidates.length ≠ 0 := fun e' => e (List.length_eq_zero_iff.1 e')
   unfold eqB; rw [decide_eq_false]; omega
  have hw : q16 (leadN n) n = n := by rw [q16, if_neg e]
  rw [hw] at go;rw [e0, cF, qm8 h, bS, qig h, bS, hw];exact go 0 0 0 0 0 [] [] [] [] [] [] []
theorem qoa (l k : List Val) (hl : l.length < 1152921504606846976) (hk : l.length = k.length) : ∀ (suf suk : List Val) (i : Nat), l.drop i = suf → k.drop i = suk → z1k l k ((l.length : Nat) : Int) (i : Int) = some (decide (suf = suk))
 | [], suk, i, h, h' => by
  have : suk = [] := by rw [← h', List.drop_eq_nil_iff, ← hk]; exact List.drop_eq_nil_iff.1 h
  subst this;apply y2j;rw [q0k h]; simp
 | y :: suf, [], i, h, h' => by
  have := q0h h;have := List.drop_eq_nil_iff.1 h';omega
 | y :: suf, z :: suk, i, h, h' => by
  have hlt := q0h h;apply y2j;rw [q07 h, cT, q06 h, q06 h', q01 (by omega), qoa l k hl hk suf suk (i + 1) (q03 h) (q03 h')];by_cases hx : y = z
  ·subst hx; simp [eqS]
  ·simp [eqS, hx]
theorem qmm (l k : List Val) (hl : l.length < 1152921504606846976) : z1w l k = some (decide (l = k)) := by
 apply y7m;by_cases hk : l.length = k.length
 ·rw [hk, q13, cF, ← hk];exact qoa l k hl hk l k 0 rfl rfl
 ·rw [q3o (by omega), cT];have : l ≠ k := fun e => hk (by rw [e])
  simp [this]
theorem qi4 {b n : Nominator} (hb : ReadyN b) (h : ReadyN n) : z24 b n = some (turnN b (q0x (leadN n) n)) := by
 have hs := h.settle (leadN n);generalize hw : q0x (leadN n) n = w at hs;have h1 := hb.vlen;have h2 := hb.alen;have hq := hs.seq;have f0 : z1m w = some w := qbl (hs.fresh w.Seq);have f1 : z1m { w with Seq := w.Seq + 1 } = some { w with Seq := w.Seq + 1 } := qbl (hs.fresh _);have e0 : Nominator.mk w.Node w.Slot w.Round (addI .i64 w.Seq 1) (Trust.mk w.Trust.Threshold w.Trust.Nodes w.Trust.Inner) w.Own w.Votes w.Accepts w.Candidates w.Heard = { w with Seq := w.Seq + 1 } := by rw [Trust.etaM, q2c (by omega) (by omega)]
 apply y4i;rw [qsn h, hw, bS, qrx _ (q1p hb.tr), bS, qmm _ _ (by omega), bS, qmm _ _ (by omega), bS, e0, f1, bS, f0, bS, q4h, q4h, turnN];by_cases e1 : b.Trust = w.Trust <;> by_cases e2 : b.Votes = w.Votes <;> by_cases e3 : b.Accepts = w.Accepts <;> simp [e1, e2, e3]
def newN (k slot : Int) (t : Trust) (own : Val) : Nominator := ⟨k, slot, 1, 1, t, own, [], [], [], []⟩
noncomputable def qmj (k slot : Int) (t : Trust) (own : Val) : Nominator × Int :=
 if inR k = false then (qad, 5) else if slot < 0 ∨ 1000000 < slot then (qad, 1) else if verr t ≠ 0 then (qad, verr t) else if 200 < own.length then (qad, 3)
 else (q0x (leadN (newN k slot t own)) (newN k slot t own), 0)
theorem qiv {k slot : Int} {t : Trust} {own : Val} (hk : inR k = true) (hs : 0 ≤ slot ∧ slot ≤ 1000000) (ht : valid t = true) (ho : own.length ≤ 200) : ReadyN (newN k slot t own) :=
 ⟨hk, hs, by simp [newN], by simp [newN], ht, ho, rfl, rfl, rfl, fun x hx => by simp [newN] at hx, rfl⟩
theorem qiw (k slot : Int) {t : Trust} (ht : Small t) (own : Val) (hown : own.length < 1000000) : z2p k slot t own = some (qmj k slot t own) := by
 apply y5y;rw [qle, bS, q7r _ ht, bS, qmj];cases hk : inR k with
 | false => rfl
 | true =>
  simp only [nT, cF, Bool.true_eq_false, if_false];by_cases h1 : slot < 0
  ·rw [q04 h1, cT, if_pos (.inl h1)]; rfl
  ·by_cases h2 : 1000000 < slot
   ·rw [q00 (by omega), cF, q04 h2, cT, if_pos (.inr h2)]; rfl
   ·rw [q00 (by omega), cF, q00 (by omega), cF, if_neg (by omega)];by_cases h3 : verr t = 0
    ·have hv := (q3l t).1 h3;rw [h3, q13, cF, if_neg (by simp)];by_cases h4 : 200 < own.length
     ·rw [q04 (by omega), cT, if_pos h4]; rfl
     ·rw [q00 (by omega), cF, if_neg h4, Trust.etaM];have hr := qiv hk (slot := slot) (by omega) hv (show own.length ≤ 200 by omega);have hs := qsn hr;have hw := hr.settle (leadN (newN k slot t own));have hf := qbl (hw.fresh (q0x (leadN (newN k slot t own)) (newN k slot t own)).Seq);have hs' : z2q ⟨k, slot, 1, 1, t, own, [], [], [], []⟩ = _ := hs;have hf' : z1m (q0x (leadN (newN k slot t own)) (newN k slot t own)) = _ := hf;rw [hs', bS, hf', bS];rw [Trust.etaM]
    ·rw [q3o h3, cT, if_pos h3]; rfl
theorem qgx (l : List Val) (hl : l.length < 1152921504606846976) : ∀ (suf : List Val) (i : Nat) (o : Val), l.drop i = suf → z1p o l ((l.length : Nat) : Int) (i : Int) = some (compV o suf, !decide (compV o suf = []))
 | [], i, o, h => by
  apply y0w;rw [q0k h]; rfl
 | y :: suf, i, o, h => by
  have hlt := q0h h;have hd : compV o (y :: suf) = compV (if vvl y = true ∧ ltv o y then y else o) suf := rfl;apply y0w;rw [q07 h, cT, q06 h, qh7, bS, qbm, bS, y3d, q01 (by omega), qgx l hl suf (i + 1) y (q03 h), qgx l hl suf (i + 1) o (q03 h), hd];cases hv : vvl y <;> by_cases hc : ltv o y <;> simp [hc]
theorem qw2 (l : List Val) (hl : l.length < 1152921504606846976) : z30 l = some (compV [] l, !decide (compV [] l = [])) := y7q _ _ (qgx l hl l 0 [] rfl)
structure TopV (l : List Val) (r : Val) : Prop where
 of : r = [] ∨ r ∈ l ∧ vvl r = true
 most : ∀ x ∈ l, vvl x = true → ¬ ltv r x
theorem TopV.uniq {l m : List Val} {r s : Val} (hr : TopV l r) (hs : TopV m s) (h : ∀ x, vvl x = true → (x ∈ l ↔ x ∈ m)) : r = s := by
 rcases hr.of with e1 | ⟨e1, v1⟩ <;> rcases hs.of with e2 | ⟨e2, v2⟩
 ·rw [e1, e2]
 ·exact absurd (by rw [e1]; exact qw6 v2) (hr.most s ((h s v2).2 e2) v2)
 ·exact absurd (by rw [e2]; exact qw6 v1) (hs.most r ((h r v1).1 e1) v1)
 ·apply Classical.byContradiction;intro hne;exact hr.most s ((h s v2).2 e2) v2 (q95 hne (hs.most r ((h r v1).1 e1) v1))
theorem ql2 (b a : List Val) (i : Nat) (x : Val) (hb : b.length < 1152921504606846976) (hi : i < 1152921504606846976) (r : Bool) (hr : z3w b a ((a.length : Nat) : Int) ((i + 1 : Nat) : Int) = some r) : ∀ (suf : List Val) (k : Nat) (c : Bool), b.drop k = suf →
  z3x b x c a ((a.length : Nat) : Int) (i : Int) b ((b.length : Nat) : Int) (k : Int) = some ((c || decide (x ∈ suf)) && r)
 | [], k, c, h => by
  apply y0p;rw [q0k h, cF, q01 (by omega), hr];cases c <;> simp
 | y :: suf, k, c, h => by
  have hlt := q0h h;apply y0p;rw [q07 h, cT, q06 h, q01 (by omega), ql2 b a i x hb hi r hr suf (k + 1) _ (q03 h), ql2 b a i x hb hi r hr suf (k + 1) _ (q03 h)];unfold eqS;cases c
  ·by_cases e : x = y <;> simp [e]
  ·simp
theorem qt0 (b a : List Val) (hb : b.length < 1152921504606846976) (ha : a.length < 1152921504606846976) : ∀ (suf : List Val) (i : Nat), a.drop i = suf → z3w b a ((a.length : Nat) : Int) (i : Int) = some (suf.all fun x => decide (x ∈ b))
 | [], i, h => by
  apply y2f;rw [q0k h]; rfl
 | y :: suf, i, h => by
  have hlt := q0h h;apply y2f;rw [q07 h, cT, q06 h, show (0 : Int) = ((0 : Nat) : Int) from rfl, ql2 b a i y hb (by omega) _ (qt0 b a hb ha suf (i + 1) (q03 h)) b 0 false rfl];simp
theorem qrv (a b : List Val) (ha : a.length < 1152921504606846976) (hb : b.length < 1152921504606846976) : law22_kept a b = some (a.all fun x => decide (x ∈ b)) := law22_kept_le _ _ _ (qt0 b a hb ha a 0 rfl)
def alone3 : Trust := ⟨1, [3], []⟩
theorem qt6 {slot round : Int} : leadR alone3 3 slot round = 3 := by
 have h := (q70 (t := alone3) (v := 3) (by decide +kernel) slot round (by decide)).2;have hn := h.ngh;unfold nghB at hn;by_cases e : leadR alone3 3 slot round = 3
 ·exact e
 ·rw [decide_eq_false e, Bool.false_or] at hn;have : wgt (leadR alone3 3 slot round) alone3 = none := by
   rw [qsd];have : ([3] : List Int).contains (leadR alone3 3 slot round) = false := by simp [e]
   rw [show alone3.Nodes = [3] from rfl, this, show alone3.Inner = [] from rfl, wgts]; rfl
  rw [this] at hn; cases hn
def ownMe : Val := [109, 101]
theorem qox : ∃ n, qmj 3 0 alone3 ownMe = (n, 0) ∧ n.Candidates = [ownMe] := by
 have h1 : leadN (newN 3 0 alone3 ownMe) = [3] := by
  show (nodes (0 ||| bit (leadR alone3 3 0 1))).map Int.ofNat = _;rw [qt6]; decide +kernel
 refine ⟨q0x (leadN (newN 3 0 alone3 ownMe)) (newN 3 0 alone3 ownMe), ?_, ?_⟩
 ·have hv : verr alone3 = 0 := (q3l _).2 (by decide +kernel);rw [qmj, if_neg (by decide), if_neg (by decide), if_neg (by rw [hv]; simp), if_neg (by decide)]
 ·rw [h1]; decide +kernel
theorem y3y : law22_awake = some true := by
 apply law22_awake_le;obtain ⟨n, h1, h2⟩ := qox;have hs : z2p 3 0 ⟨1, [3], []⟩ [109, 101] = some (n, 0) := by
  rw [qiw 3 0 (q1p (t := ⟨1, [3], []⟩) (by decide +kernel)) [109, 101] (by decide), ← h1]; rfl
 have hc : z30 [[98], [97, 97], [97, 98]] = some ([97, 98], true) := by
  rw [qw2 _ (by decide)];rw [show compV [] [[98], [97, 97], [97, 98]] = [97, 98] by decide +kernel]; rfl
 rw [hc, hs];simp only [bS, cT, h2];rw [show eqS [97, 98] [97, 98] = true from by decide];rfl
noncomputable def turned (n u : Nominator) : Nominator := turnN n (q0x (leadN u) u)
noncomputable def hearN (n : Nominator) (m : Nomination) : Nominator × Int :=
 if q6p n = false ∨ nomB m = false ∨ m.Node = n.Node then (qad, 1) else if oldN n.Heard m = true then (qad, 9) else (turned n { n with Heard := q5f m n.Heard }, 0)
noncomputable def tickN (n : Nominator) : Nominator × Int :=
 if q6p n = false then (qad, 1) else if n.Round = 1000 then (qad, 3) else (turned n { n with Round := n.Round + 1 }, 0)
noncomputable def declN (n : Nominator) (t : Trust) : Nominator × Int :=
 if q6p n = false then (qad, 1) else if verr t ≠ 0 then (qad, verr t) else if n.Trust = t then (n, 0) else (turned n { n with Trust := t }, 0)
theorem qnt (x : Nomination) (k : Int) : z3v x k = some (if x.Node < k then -1 else if k < x.Node then 1 else 0) := y64 _ _ _ (by rw [qci]; rfl)
theorem qq0 {l : List Nomination} (hl : l.length ≤ 10) (hp : l.Pairwise (fun a b => a.Node < b.Node)) (k : Int) : ∀ (n i j : Nat), j - i ≤ n → i ≤ posN k l → posN k l ≤ j → j ≤ l.length →
  z0f l k ((l.length : Nat) : Int) (i : Int) (j : Int) = some (((posN k l : Nat) : Int), q6n k l)
 | n, i, j, hn, hi, hj, hjl => by
  apply y5v;by_cases hij : i < j
  ·obtain ⟨n, rfl⟩ : ∃ m, n = m + 1 := ⟨n - 1, by omega⟩;have hmid := quz ⟨i, by omega⟩ ⟨j, by omega⟩
   dsimp only at hmid
   have hml : (i + j) / 2 < l.length := by omega
   have hg : l[(i + j) / 2]? = some l[(i + j) / 2] := by simp [hml]
   have hpl := qd2 (k := k) hp _ _ hg;rw [q04 (by omega), cT, hmid, q15 (by omega) (by rw [tN]; exact hg), qnt, bS];by_cases h1 : l[(i + j) / 2].Node < k
   ·rw [if_pos h1, q04 (by decide), cT, q01 (by omega)];exact qq0 hl hp k n ((i + j) / 2 + 1) j (by omega) (by have := hpl.1 h1; omega) hj hjl
   ·rw [if_neg h1, q00 (by split <;> decide), cF];exact qq0 hl hp k n i ((i + j) / 2) (by omega) hi (by have : ¬ (i + j) / 2 < posN k l := fun h => h1 (hpl.2 h); omega) (by omega)
  ·have hij' : i = posN k l := by omega
   subst hij';rw [q00 (by omega), cF];unfold q6n;by_cases he : posN k l < l.length
   ·have hg : l[posN k l]? = some l[posN k l] := List.getElem?_eq_getElem he;have hpl := qd2 (k := k) hp _ _ hg;have h1 : ¬ l[posN k l].Node < k := by rw [hpl]; omega
    rw [q04 (by omega), cT, q15 (by omega) (by rw [tN]; exact hg), qnt, bS, hg, if_neg h1];by_cases h2 : k < l[posN k l].Node
    ·have : ¬ l[posN k l].Node = k := by omega
     simp [h2, this, eqB]
    ·have : l[posN k l].Node = k := by omega
     simp [this, eqB]
   ·rw [q00 (by omega), cF, List.getElem?_eq_none (by omega)]
theorem y34 {l : List Nomination} (hl : l.length ≤ 10) (hp : l.Pairwise (fun a b => a.Node < b.Node)) (k : Int) : z14 l k = some (((posN k l : Nat) : Int), q6n k l) := by
 apply y6v;exact qq0 hl hp k l.length 0 l.length (by omega) (by omega) (qqj k l) (Nat.le_refl _)
theorem qvd (l : List Nomination) : (l.map q0r).all (q5q 7) = true := by
 rw [List.all_eq_true]; intro x hx; obtain ⟨y, _, rfl⟩ := List.mem_map.1 hx; rfl
theorem qp9 (l : List Nomination) (hl : l.length < 1000000) (m : Nomination) (i : Nat) (hi : i ≤ l.length) : z3n (i : Int) [m] l = some (l.take i ++ m :: l.drop i, ()) := by
 refine qhq (T := tn) (m := q2j 7) sigOk (by kernel_rfl) rfl ?_;show libA (q2j 7) [.ref 0, .d (.v (.int .i64 i)), .d (.list [q0r m])] [[.own (l.map q0r) false]] = some (.d (.list ((l.take i ++ m :: l.drop i).map q0r)), [[.undef]]);unfold libA q2j;have h1 : (i : Int) ≤ ((l.map q0r).length : Int) := by simp; omega
 have h2 : (l.map q0r).length < q0f := by simp [q0f]; omega
 have h3 : q5q 7 (q0r m) = true := rfl;simp only [Int.natCast_nonneg, h1, h2, h3, qvd, and_self, if_true, tN];simp only [List.map_append, List.map_cons, List.map_take, List.map_drop];rfl
theorem qvt {n : Nominator} (hs : SmallR n) {m : Nomination} (hm : SmallN m) : z4u n m = some (hearN n m) := by
 apply y59;rw [qdf hs, bS, qqp hm, bS, hearN];cases hv : q6p n with
 | false => rfl
 | true =>
  cases hx : nomB m with
  | false => rfl
  | true =>
   have h := qdg.1 hv;simp only [nT, cF, Bool.true_eq_false, false_or];by_cases hn : m.Node = n.Node
   ·rw [if_pos hn, hn, q2f]; rfl
   ·rw [if_neg hn, q3p hn, cF];have hp := h.asc;have hh := h.hlen;rw [y34 hh hp, bS, qgs _ (by omega)];have hpl := qqj m.Node n.Heard;have hw : ∀ H, Nominator.mk n.Node n.Slot n.Round n.Seq (Trust.mk n.Trust.Threshold n.Trust.Nodes n.Trust.Inner) n.Own n.Votes n.Accepts n.Candidates H = { n with Heard := H } := fun H => by rw [Trust.etaM]
    have ht := qi4 h (h.withH hx hn);rw [qi7] at ht ⊢;simp only [bS, qnw];cases hf : q6n m.Node n.Heard with
    | true =>
     rw [hf, if_pos rfl] at ht;unfold q6n at hf;cases hg : n.Heard[posN m.Node n.Heard]? with
     | none => rw [hg] at hf; cases hf
     | some y =>
      rw [hg] at hf;have hy : y.Node = m.Node := by simpa using hf
      have hold : oldN n.Heard m = (decide (y.Node = m.Node) && decide (m.Seq ≤ y.Seq)) := by rw [qjd hp, hg]
      simp only [cT, if_true];rw [hold, q15 (by omega) (by rw [tN]; exact hg), q15 (by omega) (by rw [tN]; exact hg), q5t (by rw [tN]; exact hg), tN, hw, ht, bS, q4h];by_cases hq : m.Seq ≤ y.Seq <;> simp [leB, hy, hq] <;> rfl
    | false =>
     rw [hf, if_neg (by simp)] at ht;unfold q6n at hf;have hold : oldN n.Heard m = false := by
      rw [qjd hp];cases hg : n.Heard[posN m.Node n.Heard]? with
      | none => rfl
      | some y => rw [hg] at hf; simp only at hf; simp [hf]
     simp only [cF, hold, fT, if_false];rw [qp9 _ (by omega) m _ hpl, bS, hw, ht, bS, q4h];rfl
theorem qvr {n : Nominator} (hs : SmallR n) : z4t n = some (tickN n) := by
 apply y7k;rw [qdf hs, bS, tickN];cases hv : q6p n with
 | false => rfl
 | true =>
  have h := qdg.1 hv;simp only [nT, cF, Bool.true_eq_false, if_false];by_cases e : n.Round = 1000
  ·rw [e, q2f, cT, if_pos rfl]; rfl
  ·have hr := h.round;rw [q3p e, cF, if_neg e, q2c (by omega) (by omega)];have hw : Nominator.mk n.Node n.Slot (n.Round + 1) n.Seq (Trust.mk n.Trust.Threshold n.Trust.Nodes n.Trust.Inner) n.Own n.Votes n.Accepts n.Candidates n.Heard = { n with Round := n.Round + 1 } := by rw [Trust.etaM]
   rw [hw, qi4 h (h.withR (by omega) (by omega)), bS, q4h]; rfl
theorem qvs {n : Nominator} (hs : SmallR n) {t : Trust} (ht : Small t) : z49 n t = some (declN n t) := by
 apply y8l;rw [qdf hs, bS, q7r _ ht, bS, declN];cases hv : q6p n with
 | false => rfl
 | true =>
  have h := qdg.1 hv;simp only [nT, cF, Bool.true_eq_false, if_false];by_cases h3 : verr t = 0
  ·have htv := (q3l t).1 h3;rw [h3, q13, cF, if_neg (by simp), qrx _ hs.tr, bS];by_cases e : n.Trust = t
   ·rw [decide_eq_true e, cT, if_pos e];have hf : z1m n = some n := qbl (h.fresh n.Seq);rw [hf, bS, q4h]
   ·rw [decide_eq_false e, cF, if_neg e];have hw : Nominator.mk n.Node n.Slot n.Round n.Seq (Trust.mk t.Threshold t.Nodes t.Inner) n.Own n.Votes n.Accepts n.Candidates n.Heard = { n with Trust := t } := by rw [Trust.etaM]
    rw [hw, qi4 h (h.withT htv), bS, q4h]; rfl
  ·rw [q3o h3, cT, if_pos h3]; rfl
theorem qu8 {n : Nominator} {m : Nomination} {w : Nominator} (h : hearN n m = (w, 0)) : ∃ u, w = turned n u ∧ q6p n = true ∧ nomB m = true ∧ m.Node ≠ n.Node ∧ u = { n with Heard := q5f m n.Heard } := by
 unfold hearN at h;split at h
 ·have := congrArg (·.2) h; simp at this
 ·rename_i hc;split at h
  ·have := congrArg (·.2) h; simp at this
  ·cases h;simp only [not_or, Bool.not_eq_false] at hc;exact ⟨_, rfl, hc.1, hc.2.1, hc.2.2, rfl⟩
theorem qto {n w : Nominator} (h : tickN n = (w, 0)) : w = turned n { n with Round := n.Round + 1 } ∧ q6p n = true ∧ n.Round ≠ 1000 := by
 unfold tickN at h;split at h
 ·have := congrArg (·.2) h; simp at this
 ·rename_i hc;split at h
  ·have := congrArg (·.2) h; simp at this
  ·rename_i hr;cases h;exact ⟨rfl, by simpa using hc, hr⟩
theorem qte {n w : Nominator} {t : Trust} (h : declN n t = (w, 0)) : q6p n = true ∧ valid t = true ∧ (n.Trust = t ∧ w = n ∨ w = turned n { n with Trust := t }) := by
 unfold declN at h;split at h
 ·have := congrArg (·.2) h; simp at this
 ·rename_i hc;split at h
  ·rename_i hv; have := congrArg (·.2) h; exact absurd this hv
  ·rename_i hv;have hv := (q3l t).1 (by simpa using hv);split at h
   ·rename_i e; cases h; exact ⟨by simpa using hc, hv, .inl ⟨e, rfl⟩⟩
   ·cases h; exact ⟨by simpa using hc, hv, .inr rfl⟩
def someV : List Val := [[97], [98], [99], [97, 97], [97, 98], [122, 122], [97, 98, 99]]
theorem qb2 : q0v someV = true := by decide +kernel
theorem qmf {k : List Val} (h : k.Sublist someV) : q0v k = true := by
 obtain ⟨h1, h2, h3⟩ := q0g.1 qb2;have := h.length_le;exact q0g.2 ⟨fun x hx => h1 x (h.subset hx), h2.sublist h, by omega⟩
theorem qxx {l : List Int} {i : Int} (h : q12 l i) : ∃ x j, z5p l i = some (x, l, j) ∧ x ∈ someV ∧ q12 l j := by
 obtain ⟨x0, i0, g0, g1, g2, g3⟩ := N_ok (n := 8) (by omega) (by omega) h;have key : ∀ x : Val, ([[97], [98], [97, 97], [97, 98], [99], [122, 122], [97, 98, 99], [98]] : List Val)[x0.toNat]? = some x → x ∈ someV → ∃ x j, z5p l i = some (x, l, j) ∧ x ∈ someV ∧ q12 l j := fun x hx hs => by
  refine ⟨x, i0, y5e _ _ _ ?_, hs, g3⟩;rw [g0, bS];exact q15 g1 hx _
 have : x0 = 0 ∨ x0 = 1 ∨ x0 = 2 ∨ x0 = 3 ∨ x0 = 4 ∨ x0 = 5 ∨ x0 = 6 ∨ x0 = 7 := by omega
 rcases this with e | e | e | e | e | e | e | e <;> subst e
 ·exact key [97] rfl (by decide)
 ·exact key [98] rfl (by decide)
 ·exact key [97, 97] rfl (by decide)
 ·exact key [97, 98] rfl (by decide)
 ·exact key [99] rfl (by decide)
 ·exact key [122, 122] rfl (by decide)
 ·exact key [97, 98, 99] rfl (by decide)
 ·exact key [98] rfl (by decide)
theorem q9v {l : List Int} (n : Int) : ∀ (suf : List Val) (a : Nat) (acc : List Val) (i : Int), someV.drop a = suf → acc.Sublist (someV.take a) → q12 l i →
  ∃ k j, z2s n acc someV ((someV.length : Nat) : Int) (a : Int) l i = some (k, l, j) ∧ k.Sublist someV ∧ q12 l j
 | [], a, acc, i, g, ha, h => by
  refine ⟨acc, i, qse _ _ _ _ _ _ _ _ (by rw [q0k g]; rfl), ?_, h⟩;rw [List.take_of_length_le (List.drop_eq_nil_iff.1 g)] at ha; exact ha
 | y :: suf, a, acc, i, g, ha, h => by
  have hlt := q0h g;have h7 : someV.length = 7 := rfl;have hy : someV[a]? = some y := by have := congrArg (·[0]?) g; simpa using this
  have hts : someV.take (a + 1) = someV.take a ++ [y] := by rw [List.take_add_one, hy]; rfl
  have stay : acc.Sublist (someV.take (a + 1)) := by rw [hts]; exact ha.trans (List.sublist_append_left _ _)
  have more : (acc ++ [y]).Sublist (someV.take (a + 1)) := by rw [hts]; exact ha.append (List.Sublist.refl _)
  have hal := ha.length_le;by_cases hn : ((acc.length : Nat) : Int) < n
  ·obtain ⟨x0, i0, g0, g1, g2, g3⟩ := N_ok (n := 3) (by omega) (by omega) h;by_cases e : x0 = 0
   ·obtain ⟨k, j, r1, r2, r3⟩ := q9v n suf (a + 1) (acc ++ [y]) i0 (q03 g) more g3;refine ⟨k, j, qse _ _ _ _ _ _ _ _ ?_, r2, r3⟩;rw [q07 g, cT, q06 g, q04 hn, cT, g0, bS]
    dsimp only
    rw [e, q2f, cT, q0o (by simp [q0f]; simp at hal; omega), q01 (by omega)]; exact r1
   ·obtain ⟨k, j, r1, r2, r3⟩ := q9v n suf (a + 1) acc i0 (q03 g) stay g3;refine ⟨k, j, qse _ _ _ _ _ _ _ _ ?_, r2, r3⟩;rw [q07 g, cT, q06 g, q04 hn, cT, g0, bS]
    dsimp only
    rw [q3p e, cF, q01 (by omega)]; exact r1
  ·obtain ⟨k, j, r1, r2, r3⟩ := q9v n suf (a + 1) acc i (q03 g) stay h;refine ⟨k, j, qse _ _ _ _ _ _ _ _ ?_, r2, r3⟩;rw [q07 g, cT, q06 g, q00 (by omega), cF, q01 (by omega)]; exact r1
theorem qk1 (n : Int) {l : List Int} {i : Int} (h : q12 l i) : ∃ k j, z5m n l i = some (k, l, j) ∧ k.Sublist someV ∧ q12 l j := by
 obtain ⟨k, j, r1, r2, r3⟩ := q9v (l := l) n someV 0 [] i rfl (List.nil_sublist _) h;exact ⟨k, j, y4y _ _ _ _ r1, r2, r3⟩
structure DrawnN (n : Int) (m : Nomination) : Prop where
 msg : nomB m = true
 node : 0 ≤ m.Node ∧ m.Node < n
 seq : 1 ≤ m.Seq ∧ m.Seq ≤ 5
 votes : ∀ x ∈ m.Votes, x ∈ someV
 accs : ∀ x ∈ m.Accepts, x ∈ someV
theorem qif {n : Int} (h1 : 1 ≤ n) (h2 : n ≤ 10) {l : List Int} {i : Int} (h : q12 l i) : ∃ t j, z57 n 2 l i = some (t, l, j) ∧ valid t = true ∧ q12 l j := by
 obtain ⟨t, j, g1, g2, _, g4⟩ := qzj h1 h2 1 (by decide) h;exact ⟨t, j, g1, g2.1, g4⟩
theorem qin {n : Int} (h1 : 1 ≤ n) (h2 : n ≤ 10) {l : List Int} {i : Int} (h : q12 l i) : ∃ m j, z59 n l i = some (m, l, j) ∧ DrawnN n m ∧ q12 l j := by
 obtain ⟨x0, i0, g0, g0', g0'x, a0⟩ := N_ok (n := n) (by omega) (by omega) h;obtain ⟨x1, i1, g1, g1', g1'x, a1⟩ := qcd (a := 1) (b := 5) (by omega) (by omega) (by omega) a0;obtain ⟨t, i2, g2, g2', a2⟩ := qif h1 h2 a1;obtain ⟨k, i3, g3, g3', a3⟩ := qk1 3 a2;obtain ⟨q, i4, g4, g4', a4⟩ := qk1 2 a3;refine ⟨⟨x0, x1, t, k, q⟩, i4, y4s _ _ _ _ ?_, ⟨q1v.2 ⟨by simp [inR]; omega, by show 1 ≤ x1; omega, g2', qmf g3', qmf g4'⟩, by dsimp only; omega, by dsimp only; omega, fun x hx => g3'.subset hx, fun x hx => g4'.subset hx⟩, a4⟩;rw [g0, bS]
 dsimp only
 rw [g1, bS]
 dsimp only
 rw [g2, bS]
 dsimp only
 rw [g3, bS]
 dsimp only
 rw [g4, bS, Trust.etaM]
theorem DrawnN.later {n : Int} {m : Nomination} (h : DrawnN n m) {k : Int} (h0 : 0 ≤ k) (hk : k ≤ 100000) : addI .i64 m.Seq k = m.Seq + k ∧ nomB ⟨m.Node, m.Seq + k, m.Trust, m.Votes, m.Accepts⟩ = true := by
 have := h.seq;obtain ⟨h1, h2, h3, h4, h5⟩ := q1v.1 h.msg;exact ⟨q2c (by omega) (by omega), q1v.2 ⟨h1, by show 1 ≤ m.Seq + k; omega, h3, h4, h5⟩⟩
structure InV (n : Nominator) : Prop where
 own : n.Own = [] ∨ n.Own ∈ someV
 votes : ∀ x ∈ n.Votes, x ∈ someV
 accs : ∀ x ∈ n.Accepts, x ∈ someV
 heard : ∀ m ∈ n.Heard, (∀ x ∈ m.Votes, x ∈ someV) ∧ ∀ x ∈ m.Accepts, x ∈ someV
theorem qjf {V : List Val} (h : q0v V = true) (hv : ∀ x ∈ V, x ∈ someV) : V.length < 40 := by
 have := qho (q0g.1 h).2.1 hv;have : someV.length = 7 := rfl;omega
theorem qw0 : ∀ {l V : List Val}, (∀ x ∈ V, x ∈ someV) → (∀ x ∈ l, x ∈ someV) → ∀ x ∈ q6s V l, x ∈ someV := fun hV hl x hx => by
 rcases qdj hx with h | h
 ·exact hV x h
 ·exact hl x h
theorem qru {n : Nominator} (h : InV n) {V : List Val} (hV : ∀ x ∈ V, x ∈ someV) (u : Int) : ∀ x ∈ leadV n V u, x ∈ someV := by
 intro x hx;unfold leadV at hx;split at hx
 ·split at hx
  ·exact hV x hx
  ·rename_i ho;rcases q62 hx with h1 | h1
   ·exact hV x h1
   ·rw [h1]; exact h.own.resolve_left ho
 ·rcases qd1 hx with h1 | ⟨m, h1, _, h2⟩
  ·exact hV x h1
  ·rcases h2 with h2 | h2
   ·exact (h.heard m h1).1 x h2
   ·exact (h.heard m h1).2 x h2
theorem qry {n : Nominator} (h : InV n) : ∀ (L : List Int) {V : List Val}, (∀ x ∈ V, x ∈ someV) → ∀ x ∈ L.foldl (leadV n) V, x ∈ someV
 | [], _, hV => hV
 | u :: L, V, hV => qry h L (V := leadV n V u) (qru h hV u)
theorem InV.listen {n : Nominator} (h : InV n) (L : List Int) : InV (q16 L n) := by
 unfold q16;split
 ·exact ⟨h.own, qry h L h.votes, h.accs, h.heard⟩
 ·exact h
theorem InV.known {n : Nominator} (h : InV n) {x : Val} (hx : x ∈ qi8 n) : x ∈ someV := by
 obtain ⟨m, hm, hx⟩ := qj2.1 (q39.1 hx);rcases List.mem_append.1 hm with hm | hm
 ·rcases hx with hx | hx
  ·exact (h.heard m hm).1 x hx
  ·exact (h.heard m hm).2 x hx
 ·simp at hm; subst hm;rcases hx with hx | hx
  ·exact h.votes x hx
  ·exact h.accs x hx
theorem InV.settleF : ∀ (k : Nat) {n : Nominator}, InV n → InV (q3g k n)
 | 0, _, h => h
 | k + 1, n, h => by
  rw [q3g];cases hx : nextN n with
  | none => exact h
  | some x =>
   refine InV.settleF k (n := qeq n x) ⟨h.own, h.votes, fun y hy => ?_, h.heard⟩;rcases q62 hy with e | e
   ·exact h.accs y e
   ·rw [e]; exact h.known (qdh hx).1
theorem InV.settle {n : Nominator} (h : InV n) (L : List Int) : InV (q0x L n) := by
 have := (h.listen L).settleF 60;exact ⟨this.own, this.votes, this.accs, this.heard⟩
theorem InV.turn {b n : Nominator} (h : InV n) : InV (turned b n) := by
 obtain ⟨s, _, g2, _⟩ := qd8 b (q0x (leadN n) n);unfold turned;rw [g2];have := h.settle (leadN n);exact ⟨this.own, this.votes, this.accs, this.heard⟩
theorem InV.hear {n : Nominator} (h : InV n) {m : Nomination} (h1 : ∀ x ∈ m.Votes, x ∈ someV) (h2 : ∀ x ∈ m.Accepts, x ∈ someV) : InV { n with Heard := q5f m n.Heard } :=
 ⟨h.own, h.votes, h.accs, fun k hk => by
  rcases qj6 hk with e | e
  ·subst e; exact ⟨h1, h2⟩
  ·exact h.heard k e⟩
theorem qje : ∀ {l V : List Val} {x : Val}, q0v V = true → (∀ y ∈ V, y ∈ someV) → (∀ y ∈ l, y ∈ someV) → x ∈ l → x ∈ q6s V l
 | [], _, _, _, _, _, h => by simp at h
 | y :: l, V, x, hV, hi, hl, h => by
  have hy := hl y (by simp);have hp := q3j hV ((q0g.1 qb2).1 y hy);have hin : ∀ z ∈ putV V y, z ∈ someV := fun z hz => by
   rcases q62 hz with e | e
   ·exact hi z e
   ·rw [e]; exact hy
  rcases List.mem_cons.1 h with e | h
  ·subst e; exact qd3 (l := l) (qlr (qjf hV hi))
  ·exact qje (l := l) hp hin (fun z hz => hl z (by simp [hz])) h
theorem qda {u : Int} : ∀ {l : List Nomination} {V : List Val} {x : Val}, q0v V = true → (∀ y ∈ V, y ∈ someV) → (∀ m ∈ l, nomB m = true ∧ (∀ y ∈ m.Votes, y ∈ someV) ∧ ∀ y ∈ m.Accepts, y ∈ someV) → (∃ m ∈ l, m.Node = u ∧ (x ∈ m.Votes ∨ x ∈ m.Accepts)) →
  x ∈ l.foldl (fun V m => if m.Node = u then q6s V (setV (m.Votes ++ m.Accepts)) else V) V
 | [], V, x, _, _, _, h => by obtain ⟨m, hm, _⟩ := h; simp at hm
 | m :: l, V, x, hV, hi, hl, ⟨k, hk, hu, hx⟩ => by
  rw [List.foldl_cons];obtain ⟨q1, q2, q3⟩ := hl m (by simp);have hs : ∀ y ∈ setV (m.Votes ++ m.Accepts), y ∈ someV := fun y hy => by
   rcases List.mem_append.1 (q39.1 hy) with e | e
   ·exact q2 y e
   ·exact q3 y e
  rcases List.mem_cons.1 hk with e | hk
  ·subst e;rw [if_pos hu];exact qde (qje hV hi hs (q39.2 (List.mem_append.2 hx)))
  ·split
   ·exact qda (q63 hV fun y hy => qfk q1 y (q39.1 hy)) (qw0 hi hs) (fun k' hk' => hl k' (by simp [hk'])) ⟨k, hk, hu, hx⟩
   ·exact qda hV hi (fun k' hk' => hl k' (by simp [hk'])) ⟨k, hk, hu, hx⟩
def mayV (n : Nominator) (x : Val) (u : Int) : Prop := u = n.Node ∧ x = n.Own ∧ n.Own ≠ [] ∨ u ≠ n.Node ∧ ∃ m ∈ n.Heard, m.Node = u ∧ (x ∈ m.Votes ∨ x ∈ m.Accepts)
theorem qvf {n : Nominator} (h : ReadyN n) (hi : InV n) {V : List Val} (hV : q0v V = true) (hVi : ∀ y ∈ V, y ∈ someV) {u : Int} {x : Val} (hx : mayV n x u) : x ∈ leadV n V u := by
 unfold leadV;rcases hx with ⟨h1, h2, h3⟩ | ⟨h1, h2⟩
 ·rw [if_pos h1, if_neg h3, h2]; exact qlr (qjf hV hVi)
 ·rw [if_neg h1]; exact qda hV hVi (fun m hm => ⟨(h.msg m hm).1, hi.heard m hm⟩) h2
theorem qhk {n : Nominator} (h : ReadyN n) (hi : InV n) {x : Val} : ∀ (L : List Int) {V : List Val}, q0v V = true → (∀ y ∈ V, y ∈ someV) → (∃ u ∈ L, mayV n x u) → x ∈ L.foldl (leadV n) V
 | [], _, _, _, hx => by obtain ⟨u, hu, _⟩ := hx; simp at hu
 | v :: L, V, hV, hVi, ⟨u, hu, hx⟩ => by
  rw [List.foldl_cons];rcases List.mem_cons.1 hu with e | hu
  ·subst e; exact qgv (qvf h hi hV hVi hx)
  ·exact qhk h hi L (qak h hV) (qru hi hVi v) ⟨u, hu, hx⟩
theorem qzd {n : Nominator} {V : List Val} {u : Int} {x : Val} (hx : x ∈ leadV n V u) : x ∈ V ∨ mayV n x u := by
 unfold leadV at hx;split at hx
 ·rename_i hu;split at hx
  ·exact .inl hx
  ·rename_i ho;rcases q62 hx with h1 | h1
   ·exact .inl h1
   ·exact .inr (.inl ⟨hu, h1, ho⟩)
 ·rename_i hu;rcases qd1 hx with h1 | h1
  ·exact .inl h1
  ·exact .inr (.inr ⟨hu, h1⟩)
theorem qsr {n : Nominator} {x : Val} : ∀ (L : List Int) {V : List Val}, x ∈ L.foldl (leadV n) V → x ∈ V ∨ ∃ u ∈ L, mayV n x u
 | [], _, hx => .inl hx
 | v :: L, V, hx => by
  rw [List.foldl_cons] at hx;rcases qsr L hx with h1 | ⟨u, h1, h2⟩
  ·rcases qzd h1 with h1 | h1
   ·exact .inl h1
   ·exact .inr ⟨v, by simp, h1⟩
  ·exact .inr ⟨u, by simp [h1], h2⟩
theorem qi6 {n : Nominator} {u : Int} : u ∈ leadN n ↔ has (leadS n.Trust n.Node n.Slot n.Round) u = true := by
 unfold leadN leadL;generalize leadS n.Trust n.Node n.Slot n.Round = s;rw [List.mem_map];constructor
 ·rintro ⟨i, hi, rfl⟩;obtain ⟨h1, h2⟩ := qcm.1 hi;show has s (i : Int) = true;rw [qkh h2]; exact h1
 ·intro h;obtain ⟨i, h1, h2, h3⟩ := quw h;exact ⟨i, qcm.2 ⟨h3, h2⟩, h1.symm⟩
def ListN (n : Nominator) : Prop := n.Candidates = [] → ∀ u ∈ leadN n, ∀ x, mayV n x u → x ∈ n.Votes
structure GoneN (n : Nominator) (k : Nat) : Prop where
 ready : ReadyN n
 seq : n.Seq ≤ (k : Int) + 1
 inv : InV n
 list : ListN n
structure StepF (n w : Nominator) : Prop where
 step : StepN n w
 inv : InV w
 list : ListN w
 from' : ∀ x ∈ w.Votes, x ∈ n.Votes ∨ ∃ u ∈ leadN w, mayV w x u
 stop : n.Candidates ≠ [] → w.Votes = n.Votes
 all : n.Candidates = [] → ∀ u ∈ leadN w, ∀ x, mayV w x u → x ∈ w.Votes
theorem qpe (n u : Nominator) : ∃ s A C, turned n u = { u with Seq := s, Votes := (q16 (leadN u) u).Votes, Accepts := A, Candidates := C } ∧ (∀ x ∈ u.Candidates, x ∈ C) := by
 obtain ⟨s, _, g2, _⟩ := qd8 n (q0x (leadN u) u);obtain ⟨A, C, f1, _, _, f4⟩ := q7z (leadN u) u;refine ⟨s, A, C, ?_, f4⟩;unfold turned;rw [g2, f1]
theorem q92 {n u : Nominator} (hu : ReadyN u) (hi : InV u) (h1 : u.Node = n.Node) (h2 : u.Slot = n.Slot) (h3 : u.Seq = n.Seq) (h4 : u.Votes = n.Votes) (h5 : u.Accepts = n.Accepts) (h6 : u.Candidates = n.Candidates) : StepF n (turned n u) := by
 have hst := (qtv hu (leadN u) h1 h2 h3 h4 h5 h6).1;obtain ⟨s, A, C, e, hC⟩ := qpe n u;have hL : leadN (turned n u) = leadN u := by rw [e]; rfl
 have hm : ∀ x k, mayV (turned n u) x k ↔ mayV u x k := fun x k => by rw [e]; exact Iff.rfl
 have hv : (turned n u).Votes = (q16 (leadN u) u).Votes := by rw [e]
 have all : n.Candidates = [] → ∀ k ∈ leadN (turned n u), ∀ x, mayV (turned n u) x k → x ∈ (turned n u).Votes := fun hc k hk x hx => by
  rw [hv, q16, if_pos (h6.trans hc)];rw [hL] at hk;exact qhk hu hi _ hu.votes hi.votes ⟨k, hk, (hm x k).1 hx⟩
 refine ⟨hst, hi.turn, fun hc => ?_, fun x hx => ?_, fun hc => ?_, all⟩
 ·have : n.Candidates = [] := by
   rw [e] at hc;have hc : C = [] := hc;rw [← h6];cases hcc : u.Candidates with
   | nil => rfl
   | cons y r => have := hC y (by rw [hcc]; simp); rw [hc] at this; simp at this
  exact all this
 ·rw [hv] at hx;unfold q16 at hx;split at hx
  ·rcases qsr _ hx with e1 | ⟨k, k1, k2⟩
   ·exact .inl (by rw [← h4]; exact e1)
   ·exact .inr ⟨k, by rw [hL]; exact k1, (hm x k).2 k2⟩
  ·exact .inl (by rw [← h4]; exact hx)
 ·rw [hv, q16, if_neg (by rw [h6]; exact hc), h4]
theorem StepF.same {n : Nominator} (h : ReadyN n) (hi : InV n) (hl : ListN n) : StepF n n :=
 ⟨⟨rfl, rfl, .inl rfl, fun _ h => h, fun _ h => h, fun _ h => h, fun _ => h, ⟨fun _ => ⟨rfl, rfl, rfl⟩, fun _ => rfl⟩⟩, hi, hl, fun _ h => .inl h, fun _ => rfl, hl⟩
theorem GoneN.next {n w : Nominator} {k : Nat} (h : GoneN n k) (hk : k < 1000) (hs : StepF n w) : GoneN w (k + 1) := by
 have := h.seq;have := hs.step.seq;exact ⟨hs.step.ready (by omega), by omega, hs.inv, hs.list⟩
theorem GoneN.up {n : Nominator} {k : Nat} (h : GoneN n k) : GoneN n (k + 1) := ⟨h.ready, by have := h.seq; omega, h.inv, h.list⟩
theorem qtt {k slot : Int} (hk : inR k = true) (hs : 0 ≤ slot ∧ slot ≤ 1000000) {t : Trust} (ht : valid t = true) {own : Val} (ho : own ∈ someV) : ∃ n, z2p k slot t own = some (n, 0) ∧ n.Seq = 1 ∧ GoneN n 0 := by
 have hol : own.length ≤ 200 := (qq5.1 ((q0g.1 qb2).1 own ho)).2;have hr := qiv hk hs ht hol;have hi : InV (newN k slot t own) := ⟨.inr ho, fun x hx => by simp [newN] at hx, fun x hx => by simp [newN] at hx, fun m hm => by simp [newN] at hm⟩;have hv : verr t = 0 := (q3l t).2 ht;obtain ⟨A, C, f1, _, _, _⟩ := q7z (leadN (newN k slot t own)) (newN k slot t own);refine ⟨q0x (leadN (newN k slot t own)) (newN k slot t own), ?_, by rw [f1]; rfl, hr.settle _, by rw [f1]; show (1 : Int) ≤ _; omega, hi.settle _, fun hc u hu x hx => ?_⟩
 ·rw [qiw k slot (q1p ht) own (by omega), qmj, if_neg (by rw [hk]; simp), if_neg (by omega), if_neg (by rw [hv]; simp), if_neg (by omega)]
 ·rw [f1] at hu hx ⊢;show x ∈ (q16 (leadN (newN k slot t own)) (newN k slot t own)).Votes;rw [q16, if_pos (show (newN k slot t own).Candidates = [] from rfl)];exact qhk hr hi _ hr.votes hi.votes ⟨u, hu, hx⟩
theorem y00 {n : Nominator} {k : Nat} (h : GoneN n k) (_hk : k < 100) {i : Int} (hi0 : 0 ≤ i) (hi : i ≤ 100) {l : List Int} {j : Int} (ht : q12 l j) : ∃ w e j', law22_step n 4 i l j = some (w, e, l, j') ∧ q12 l j' ∧ (e = 0 → StepF n w) := by
 have hsm := h.ready.small;obtain ⟨x0, i0, g0, _, _, a0⟩ := N_ok (n := 6) (by omega) (by omega) ht;by_cases e0 : x0 = 0
 ·refine ⟨(tickN n).1, (tickN n).2, i0, law22_step_le _ _ _ _ _ _ ?_, a0, fun e => ?_⟩
  ·rw [g0, bS]
   dsimp only
   rw [e0, q2f, cT, qvr hsm, bS, q4h]
  ·obtain ⟨s1, s2, s3⟩ := qto (n := n) (w := (tickN n).1) (by rw [← e]);have hr := h.ready.round;rw [s1];exact q92 (h.ready.withR (by omega) (by omega)) ⟨h.inv.own, h.inv.votes, h.inv.accs, h.inv.heard⟩ rfl rfl rfl rfl rfl rfl
 ·by_cases e1 : x0 = 1
  ·obtain ⟨t, i1, g1, g1', a1⟩ := qif (n := 4) (by omega) (by omega) a0;refine ⟨(declN n t).1, (declN n t).2, i1, law22_step_le _ _ _ _ _ _ ?_, a1, fun e => ?_⟩
   ·rw [g0, bS]
    dsimp only
    rw [q3p e0, cF, e1, q2f, cT, g1, bS]
    dsimp only
    rw [qvs hsm (q1p g1'), bS, q4h]
   ·obtain ⟨_, s2, s3⟩ := qte (n := n) (w := (declN n t).1) (t := t) (by rw [← e]);rcases s3 with ⟨_, s3⟩ | s3
    ·rw [s3]; exact StepF.same h.ready h.inv h.list
    ·rw [s3];exact q92 (h.ready.withT s2) ⟨h.inv.own, h.inv.votes, h.inv.accs, h.inv.heard⟩ rfl rfl rfl rfl rfl rfl
  ·obtain ⟨m, i1, g1, g1', a1⟩ := qin (n := 4) (by omega) (by omega) a0;obtain ⟨q1, q2⟩ := g1'.later (k := 5 * i) (by omega) (by omega);have hmul : mulI .i64 5 i = 5 * i := wrap64 (by omega) (by omega);refine ⟨(hearN n ⟨m.Node, m.Seq + 5 * i, m.Trust, m.Votes, m.Accepts⟩).1, (hearN n ⟨m.Node, m.Seq + 5 * i, m.Trust, m.Votes, m.Accepts⟩).2, i1, law22_step_le _ _ _ _ _ _ ?_, a1, fun e => ?_⟩
   ·rw [g0, bS]
    dsimp only
    rw [q3p e0, cF, q3p e1, cF, g1, bS]
    dsimp only
    rw [hmul, q1, Trust.etaM, qvt hsm (q55 q2), bS, q4h]
   ·obtain ⟨u, s1, _, s2, s3, s4⟩ := qu8 (n := n) (w := (hearN n ⟨m.Node, m.Seq + 5 * i, m.Trust, m.Votes, m.Accepts⟩).1) (m := ⟨m.Node, m.Seq + 5 * i, m.Trust, m.Votes, m.Accepts⟩) (by rw [← e]);rw [s1, s4];exact q92 (h.ready.withH s2 s3) (h.inv.hear g1'.votes g1'.accs) rfl rfl rfl rfl rfl rfl
noncomputable def canOf (_n w : Nominator) (l : List Nomination) : List Val := l.flatMap fun m => if has (leadS w.Trust w.Node w.Slot w.Round) m.Node = true then m.Votes ++ m.Accepts else []
theorem qbe {n w : Nominator} {k : Nat} (hn : GoneN n k) (hw : GoneN w (k + 1)) (hs : StepF n w) (i : Nat) (hi : i < 100) {l : List Int} {j : Int} (base : List Val) (hb : base = n.Votes ∨ base = n.Votes ++ [w.Own]) (hbo : (has (leadS w.Trust w.Node w.Slot w.Round) w.Node = true → base = n.Votes ++ [w.Own]) ∧ (has (leadS w.Trust w.Node w.Slot w.Round) w.Node = false → base = n.Votes))
  (hrec : z18 ((i + 1 : Nat) : Int) l j w.Node w.Slot w.Round w.Seq w.Trust.Threshold w.Trust.Nodes w.Trust.Inner w.Own w.Votes w.Accepts w.Candidates w.Heard = some true) : ∀ (suf : List Nomination) (q : Nat) (acc : List Val), w.Heard.drop q = suf → acc = base ++ canOf n w (w.Heard.take q) →
  z1j (i : Int) acc ((leadS w.Trust w.Node w.Slot w.Round : Nat) : Int) w.Heard ((w.Heard.length : Nat) : Int) (q : Int) l j n.Node n.Slot n.Round n.Seq n.Trust.Threshold n.Trust.Nodes n.Trust.Inner n.Own n.Votes n.Accepts n.Candidates n.Heard w.Node w.Slot w.Round w.Seq w.Trust.Threshold w.Trust.Nodes w.Trust.Inner w.Own w.Votes w.Accepts w.Candidates w.Heard = some true
 | m :: suf, q, acc, g, ha => by
  have hlt := q0h g;have hh := hw.ready.hlen;have hnv := hn.ready.vlen;have hls := qkn hw.ready.tr w.Slot w.Round hw.ready.node;have hm := hw.ready.msg m (List.mem_of_mem_drop (i := q) (by rw [g]; simp));obtain ⟨_, _, _, v1, v2⟩ := q1v.1 hm.1;have v1 := (q0g.1 v1).2.2;have v2 := (q0g.1 v2).2.2;have hq : w.Heard[q]? = some m := by have := congrArg (·[0]?) g; simpa using this
  have htk : w.Heard.take (q + 1) = w.Heard.take q ++ [m] := by rw [List.take_add_one, hq]; rfl
  have hcl : ∀ q, q ≤ 10 → (canOf n w (w.Heard.take q)).length ≤ 80 * q := by
   intro q _;have : ∀ l : List Nomination, (∀ m ∈ l, nomB m = true) → (canOf n w l).length ≤ 80 * l.length := by
    intro l;induction l with
    | nil => intro _; simp [canOf]
    | cons y r ih =>
     intro hy;have := ih fun z hz => hy z (by simp [hz])
     obtain ⟨_, _, _, q1, q2⟩ := q1v.1 (hy y (by simp));have q1 := (q0g.1 q1).2.2;have q2 := (q0g.1 q2).2.2;have e : canOf n w (y :: r) = (if has (leadS w.Trust w.Node w.Slot w.Round) y.Node = true then y.Votes ++ y.Accepts else []) ++ canOf n w r := by simp [canOf]
     rw [e, List.length_append, List.length_cons];split
     ·simp; omega
     ·simp; omega
   have h1 := this (w.Heard.take q) fun m hm => (hw.ready.msg m (List.mem_of_mem_take hm)).1
   have : (w.Heard.take q).length ≤ q := by simp; omega
   omega
  have hal : acc.length ≤ 41 + 800 := by
   have := hcl q (by omega);rw [ha, List.length_append];rcases hb with e | e <;> rw [e] <;> simp <;> omega
  apply y1w;rw [q07 g, cT, q06 g, q31 hls, bS, q01 (by omega)];cases hc : has (leadS w.Trust w.Node w.Slot w.Round) m.Node with
  | true =>
   rw [cT, q0o (by simp [q0f]; omega), q0o (by simp [q0f]; omega)];refine qbe hn hw hs i hi base hb hbo hrec suf (q + 1) _ (q03 g) ?_;rw [ha, htk]; simp [canOf, hc]
  | false =>
   rw [cF];refine qbe hn hw hs i hi base hb hbo hrec suf (q + 1) _ (q03 g) ?_;rw [ha, htk]; simp [canOf, hc]
 | [], q, acc, g, ha => by
  have hh := hw.ready.hlen;have hwv := hw.ready.vlen;have hnc := hn.ready.clen;rw [List.take_of_length_le (List.drop_eq_nil_iff.1 g)] at ha;have hbm : ∀ x, x ∈ acc ↔ x ∈ n.Votes ∨ (has (leadS w.Trust w.Node w.Slot w.Round) w.Node = true ∧ x = w.Own) ∨ ∃ m ∈ w.Heard, has (leadS w.Trust w.Node w.Slot w.Round) m.Node = true ∧ (x ∈ m.Votes ∨ x ∈ m.Accepts) := fun x => by
   have e2 : x ∈ canOf n w w.Heard ↔ ∃ m ∈ w.Heard, has (leadS w.Trust w.Node w.Slot w.Round) m.Node = true ∧ (x ∈ m.Votes ∨ x ∈ m.Accepts) := by
    unfold canOf;rw [List.mem_flatMap];constructor
    ·rintro ⟨m, h1, h2⟩;split at h2
     ·rename_i h3; exact ⟨m, h1, h3, List.mem_append.1 h2⟩
     ·simp at h2
    ·rintro ⟨m, h1, h2, h3⟩;exact ⟨m, h1, by rw [if_pos h2]; exact List.mem_append.2 h3⟩
   rw [ha, List.mem_append, e2];cases hc : has (leadS w.Trust w.Node w.Slot w.Round) w.Node with
   | true => rw [hbo.1 hc]; simp [or_assoc]
   | false => rw [hbo.2 hc]; simp
  have halen : acc.length < 1000000 := by
   have hcl : ∀ l : List Nomination, (∀ m ∈ l, nomB m = true) → (canOf n w l).length ≤ 80 * l.length := by
    intro l;induction l with
    | nil => intro _; simp [canOf]
    | cons y r ih =>
     intro hy;have := ih fun z hz => hy z (by simp [hz])
     obtain ⟨_, _, _, q1, q2⟩ := q1v.1 (hy y (by simp));have q1 := (q0g.1 q1).2.2;have q2 := (q0g.1 q2).2.2;have e : canOf n w (y :: r) = (if has (leadS w.Trust w.Node w.Slot w.Round) y.Node = true then y.Votes ++ y.Accepts else []) ++ canOf n w r := by simp [canOf]
     rw [e, List.length_append, List.length_cons];split
     ·simp; omega
     ·simp; omega
   have h1 := hcl w.Heard fun m hm => (hw.ready.msg m hm).1
   have hnv := hn.ready.vlen;rw [ha, List.length_append];rcases hb with e | e <;> rw [e] <;> simp <;> omega
  have k1 : law22_kept w.Votes acc = some true := by
   rw [qrv _ _ (by omega) (by omega)];congr 1
   rw [List.all_eq_true];intro x hx;rw [dT', hbm];rcases hs.from' x hx with h1 | ⟨u, h1, h2⟩
   ·exact .inl h1
   ·rw [qi6] at h1;rcases h2 with ⟨h2, h3, _⟩ | ⟨h2, m, h3, h4, h5⟩
    ·exact .inr (.inl ⟨by rw [h2] at h1; exact h1, h3⟩)
    ·exact .inr (.inr ⟨m, h3, by rw [h4]; exact h1, h5⟩)
  have k2 : n.Candidates = [] → law22_kept acc ([([] : Val)] ++ w.Votes) = some true := fun hc => by
   rw [qrv _ _ (by omega) (by simp; omega)];congr 1
   rw [List.all_eq_true];intro x hx;rw [dT', List.mem_append, List.mem_singleton];rcases (hbm x).1 hx with h1 | ⟨h1, h2⟩ | ⟨m, h1, h2, h3⟩
   ·exact .inr (hs.step.votes x h1)
   ·by_cases ho : w.Own = []
    ·exact .inl (by rw [h2, ho])
    ·exact .inr (hs.all hc w.Node (qi6.2 h1) x (.inl ⟨rfl, h2, ho⟩))
   ·exact .inr (hs.all hc m.Node (qi6.2 h2) x (.inr ⟨(hw.ready.msg m h1).2, m, h1, rfl, h3⟩))
  apply y1w;rw [q0k g, cF, k1, bS, q01 (by omega), hrec];simp only [nT, cF];by_cases hc : n.Candidates = []
  ·have h0 : n.Candidates.length = 0 := by rw [hc]; rfl
   rw [h0, q0o (by simp [q0f]; omega), k2 hc];rfl
  ·have h0 : n.Candidates.length ≠ 0 := fun e => hc (List.length_eq_zero_iff.1 e)
   rw [q04 (by omega), cT, hs.stop hc, q13, cF, q3p (by omega), cF]
theorem qh9 {l : List Int} : ∀ (r i : Nat) (n : Nominator) (k : Nat) (j : Int), i + r = 8 → k ≤ i → GoneN n k → q12 l j → z18 (i : Int) l j n.Node n.Slot n.Round n.Seq n.Trust.Threshold n.Trust.Nodes n.Trust.Inner n.Own n.Votes n.Accepts n.Candidates n.Heard = some true
 | 0, i, n, k, j, hi, hk, h, ht => by
  apply y1t;rw [q00 (by omega), cF, y3y]; rfl
 | r + 1, i, n, k, j, hi, hk, h, ht => by
  obtain ⟨w, e, j', g1, g2, g3⟩ := y00 h (by omega) (i := (i : Int)) (by omega) (by omega) ht;have hnv := h.ready.vlen;apply y1t;rw [q04 (by omega), cT, q4h, g1, bS]
  dsimp only
  by_cases he : e = 0
  ·have hs := g3 he;have hw := h.next (by omega) hs;have hls := qkn hw.ready.tr w.Slot w.Round hw.ready.node;rw [he, q13, cF, q0o (by simp [q0f]; omega), y03 hw.ready.ask, bS]
   dsimp only
   rw [q31 hls, bS, q0o (by simp [q0f]; omega), List.nil_append];have hrec := qh9 (l := l) r (i + 1) w (k + 1) j' (by omega) (by omega) hw g2;cases hc : has (leadS w.Trust w.Node w.Slot w.Round) w.Node with
   | true =>
    rw [cT];exact qbe h hw hs i (by omega) (n.Votes ++ [w.Own]) (.inr rfl) ⟨fun _ => rfl, fun e => (by rw [hc] at e; cases e)⟩ hrec w.Heard 0 _ rfl (by simp [canOf])
   | false =>
    rw [cF];exact qbe h hw hs i (by omega) n.Votes (.inl rfl) ⟨fun e => (by rw [hc] at e; cases e), fun _ => rfl⟩ hrec w.Heard 0 _ rfl (by simp [canOf])
  ·rw [q3o he, cT, q01 (by omega)];exact qh9 r (i + 1) n k j' (by omega) (by omega) h g2
theorem qv1 (t : List Int) : law22_NominationFollows t = some true := by
 obtain ⟨l, g0, a0⟩ := y7x t;obtain ⟨x1, i1, g1, q1, q1', a1⟩ := N_ok (n := 4) (by omega) (by omega) a0;obtain ⟨x2, i2, g2, q2, q2', a2⟩ := N_ok (n := 100) (by omega) (by omega) a1;obtain ⟨t3, i3, g3, q3, a3⟩ := qif (n := 4) (by omega) (by omega) a2;obtain ⟨v, i4, g4, q4, a4⟩ := qxx a3;obtain ⟨n, g5, _, hg⟩ := qtt (k := x1) (slot := x2) (by simp [inR]; omega) (by omega) q3 q4;apply law22_NominationFollows_le;rw [g0, bS]
 dsimp only
 rw [g1, bS]
 dsimp only
 rw [g2, bS]
 dsimp only
 rw [g3, bS]
 dsimp only
 rw [g4, bS]
 dsimp only
 rw [g5, bS, q13, cF];exact qh9 7 1 n 0 i4 rfl (by omega) hg a4
end Go.Proofs.YtglokalgdbegeaaGreat
namespace Go.Proofs.YtglokalgdbegeaaGreat
open Go Go.Ab Go.ChangeShapes Go.WideShapes Go.ChangeAt Go.WideMaps Go.WideElems Go.RowKit
theorem Tryz.own : ownKnob Tryz.prog.godebug = none := by kernel_rfl
theorem Tryz.laidOut : laidOutB Tryz.prog = true := by kernel_rfl
theorem qv3 {f : Nat} (hlaw : ∀ zs : List Int, (∀ z ∈ zs, (Lit.int .i64 z).wf = true) → ∃ n h', call env n f [.d (ints .i64 zs)] [] = some (.d (.v (.bool true)), h'))
  {W : World} {v : Value} {zs : List Int} (hz : ∀ z ∈ zs, (Lit.int .i64 z).wf = true) (hv : Rep W qcf (ints .i64 zs) v) :
  Calls Tryz.prog f #[v] W fun e w' => e = .returned (.bool true) ∧ Below W.heap.size W w' := by
 obtain ⟨n, h', hc⟩ := hlaw zs hz;exact top (E := env) (y4m n) (fun g cs hg => by cases hg) (ds := [ints .i64 zs]) hc rfl (fun i d hd => by
  cases i with
  | zero => simp at hd; subst hd; exact hv
  | succ i => simp at hd)
end Go.Proofs.YtglokalgdbegeaaGreat
